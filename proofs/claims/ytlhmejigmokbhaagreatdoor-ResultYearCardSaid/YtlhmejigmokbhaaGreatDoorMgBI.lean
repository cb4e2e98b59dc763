/- The texts CkB, CkC, one behind the other. No statement of the seed is proved here. -/
import Derived.Test.YtlhmejigmokbhaaGreatDoorMgBF
namespace Go.Proofs.YtlhmejigmokbhaaGreatDoor.Pay
open Go Go.RowKit
set_option linter.unusedVariables false
set_option linter.unusedSimpArgs false
def iL (out:List Bool) (l:List Int):List Bool:=l.foldl (λo n=>o.set n.toNat true) out
theorem jd (l:List Int):∀out,(iL out l).length=out.length:=by
 induction l with
 |nil=>intro out;rfl
 |cons n l ih=>intro out;show(iL (out.set n.toNat true) l).length=out.length;rw[ih,List.length_set]
theorem ut (out:List Bool) (l:List Int) {k:Nat} (h:k<l.length):iL out (l.take (k+1))=(iL out (l.take k)).set (l[k]).toNat true:=by
 rw[List.take_add_one,List.getElem?_eq_getElem h,iL,iL,Option.toList_some,List.foldl_append];rfl
def gc (X:List Ex):Nat->List Bool->Option (List Bool)
 |0,out=>some out
 |n+1,out=>if out.getD n false=true then(if (aE (X.getD n default)).all (ek n)=true then gc X n (iL out (aE (X.getD n default))) else none) else gc X n out
def iD (X:List Ex) (root:Int):Option (List Bool):=if 0<=root/\root<X.length then gc X (root.toNat+1) ((List.replicate (root.toNat+1) false).set root.toNat true) else none
def n_ (o:Option (List Bool)):FV:= .tup [.d (.list 1 ((o.getD []).map D.bool)),.d (.bool o.isSome)]
theorem l_ (x:Ex):(aE x).length<=3:=by
 unfold aE;repeat' split
 all_goals simp
structure Nd where
 n:Nat
 out:List Bool
set_option maxHeartbeats 4000000 in
theorem uE (R:List Ru) (X:List Ex) (root:Int) (hX:X.length<=500000000):ah Tryz.prog 121 [.d (.agg [aL R,aM X]),.d (dI root)] (n_ (iD X root)):=by
 by_cases hr:0<=root/\root<X.length
 ·obtain⟨m,rfl⟩:∃m:Nat,root=m:=⟨root.toNat,by omega⟩
  have hm:m<X.length:=by omega
  have hm1:(m:Int)<X.length:=by omega
  obtain⟨N,hN⟩:∃N,m+1=N:=⟨_,rfl⟩
  have hw0:IntKind.i64.wrap ((m:Int)+1)=(N:Int):=by rw[am (by omega) (by omega)];omega
  have hm8:(N:Int)<=8589934592:=by omega
  have hmN:m<N:=by omega
  have hm0:¬(m:Int)<0:=by omega
  have hmN1:(N:Int)-1=m:=by omega
  have hmx:¬X.length<=m:=by omega
  obtain⟨Z,hZ⟩:∃Z,iD X m=Z:=⟨_,rfl⟩
  have hZ0:Z=gc X N ((List.replicate N false).set m true):=by rw[<-hZ,iD,if_pos hr,Int.toNat_natCast,hN]
  rw[hZ];clear hZ;refine ah.enter tabOk Tryz.func121 rfl (by show 2<=58;decide) ?_
  simp only[Tryz.f121];have H:=And.intro hw0 (And.intro hm (And.intro hm1 (And.intro hm8 (And.intro hmN (And.intro hm0 (And.intro hmx hmN1))))));refine zR ?_;refine WpC.seq ?_;refine WpC.seq ?_;refine WpC.val 18 (.d (.bool ((decide ((m:Int)<0)||decide ((X.length:Int)<=m))))) ?_ ?_
  ·refine WpC.region ?_;refine zO 3 ?_;refine zS 12 (λg12=>?_) (λg12=>?_)
   ·try(exfalso;revert g12;simp;done)
    all_goals
     have g12':=zN g12;replace H:=And.intro g12 H;refine zO 6 ?_;refine WpO.nil ?_;refine⟨rfl,Gh.only 18 10 ?_ (by first|rfl|simp -implicitDefEqProofs[H]) (by rfl)⟩
     simp -implicitDefEqProofs[H,g12']
   ·try(exfalso;revert g12;simp;done)
    all_goals
     have g12':=zN g12;replace H:=And.intro g12 H;refine zO 6 ?_;refine WpO.nil ?_;refine⟨rfl,Gh.only 18 10 ?_ (by first|rfl|simp -implicitDefEqProofs[H]) (by rfl)⟩
     simp -implicitDefEqProofs[H,g12']
  refine zF ?_;refine WpC.skip ?_;iterate 2 refine zR ?_
  refine WpC.seq ?_;refine zR ?_;refine WpC.block ?_;refine WpC.loopM [2,6] [7] (λx=>x.n) (⟨N,(List.replicate N false).set m true⟩:Nd) (λx=>[(7,.d (dI ((x.n:Int)-1)))]) (λx=>[.cells 41 [.d (aL R),.d (aM X)],.arr 4 1 (x.out.map D.bool)]) (λx=>x.n<=N/\x.out.length=N/\Z=gc X x.n x.out) (by simp -implicitDefEqProofs[H]<;>rfl) (Gh.cut' [7,2,6] 2 (by simp -implicitDefEqProofs[H]) (by simp -implicitDefEqProofs[H]) rfl (by simp) (by simp) (by simp)) (⟨Nat.le_refl _,by simp,hZ0⟩) ?_
  rintro x hi;simp only[List.cons_append,List.nil_append];obtain⟨n0,out⟩:=x;obtain⟨i1,i2,i3⟩:=hi;simp only at i1 i2 i3 ⊢;refine WpC.seq ?_;refine zR ?_;refine zD ((1:Int)<=(n0:Int)) (λd27=>?_) (λd27=>?_)
  ·obtain⟨n,rfl⟩:∃n,n0=n+1:=⟨n0-1,by omega⟩
   have hn:n<out.length:=by omega
   have hnX:n<X.length:=by omega
   have hNo:N<=out.length:=by omega
   have hnN:n<N:=by omega
   have hNs:∀l,N<=(iL out l).length:=λl=>by rw[jd];omega
   obtain⟨b,hb⟩:∃b,out[n]=b:=⟨_,rfl⟩
   obtain⟨x,hx⟩:∃x,X[n]=x:=⟨_,rfl⟩
   have hbd:out.getD n false=b:=by rw[List.getD_eq_getElem?_getD,List.getElem?_eq_getElem hn,hb];rfl
   have hxd:X.getD n default=x:=by rw[List.getD_eq_getElem?_getD,List.getElem?_eq_getElem hnX,hx];rfl
   have hwn:IntKind.i64.wrap ((n:Int)-1)=n-1:=am (by omega) (by omega)
   have hno:b=false->Z=gc X n out:=λh=>by rw[i3,gc,hbd,h];simp
   have hpc:=uz x;have hp3:=l_ x;have hye:b=true->Z=if (aE x).all (ek n)=true then gc X n (iL out (aE x)) else none:=λh=>by rw[i3,gc,hbd,h,hxd];simp
   obtain⟨L,hL⟩:∃L,aE x=L:=⟨_,rfl⟩
   rw[hL] at hpc hye hp3;have hnn:((n+1:Nat):Int)-1=n:=by omega
   replace H:=And.intro d27 (And.intro hn (And.intro hnX (And.intro hNo (And.intro hnN (And.intro hNs (And.intro hb (And.intro hx (And.intro hwn (And.intro hnn H)))))))));refine WpC.skip ?_;refine WpC.seq ?_;refine WpC.block ?_;refine WpC.seq ?_;refine zR ?_;refine zC (λc34=>?_) (λc34=>?_)
   ·have c34':=zN c34;have hno:=hno (by simpa using c34)
    replace H:=And.intro c34 H;refine WpC.exit ?_;refine zr ?_;exact⟨⟨n,out⟩,⟨by simp only;omega,i2,hno⟩,by simp only;omega,Gh.cut' [7,2,6] 2 (by simp -implicitDefEqProofs[H,c34']) (by simp -implicitDefEqProofs[H,c34']) rfl (by simp) (by simp) (by simp)⟩
   have c34':=zN c34;have hye:=hye (by simpa using c34)
   replace H:=And.intro c34 H;refine WpC.skip ?_;refine WpC.seq ?_;refine WpC.region ?_;refine zO 5 ?_;refine zG yf (hpc) ?_;refine zO 2 ?_;refine WpO.nil ?_;refine WpC.block ?_;refine WpC.loopK [2,6,7,40,41] [42] (L.length) (():Unit) (λk _=>[(42,.d (.int .i64 k))]) (λk _=>[.cells 41 [.d (aL R),.d (aM X)],.arr 4 1 ((iL out (L.take k)).map D.bool)]) (λk _=>(L.take k).all (ek n)=true) (by simp -implicitDefEqProofs[H]<;>rfl) (Gh.cut' [42,2,6,7,40,41] 2 (by simp) (by simp[iL]) rfl (by simp) (by simp) (by simp)) (by simp) ?_
   rintro k ⟨⟩ hk hi;simp only[List.cons_append,List.nil_append];refine zR ?_;refine WpC.seq (zL (k<L.length) (λhlt=>?_) (λhge=>?_))
   ·refine WpC.skip ?_;have hlk:k<L.length:=hlt;obtain⟨v,hv⟩:∃v,L[k]=v:=⟨_,rfl⟩
    have hst:=ut out L hlt;rw[hv] at hst;have hall:(L.take (k+1)).all (ek n)=ek n v:=by rw[List.take_add_one,List.getElem?_eq_getElem hlk,hv,List.all_append,hi];simp
    have hw:IntKind.i64.wrap ((k:Int)+1)=k+1:=am (by omega) (by omega)
    replace H:=And.intro hlt (And.intro hlk (And.intro hv (And.intro hw H)));refine WpC.seq ?_;refine WpC.block ?_;refine zR ?_;refine WpC.seq ?_;refine WpC.seq ?_;refine WpC.val 52 (.d (.bool (!ek n v))) ?_ ?_
    ·refine WpC.region ?_;refine zO 3 ?_;refine zS 48 (λg48=>?_) (λg48=>?_)
     ·have g48':=zN g48;replace H:=And.intro g48 H;refine zO 4 ?_;refine WpO.nil ?_;refine⟨rfl,Gh.only 52 8 ?_ (by first|rfl|simp -implicitDefEqProofs[H]) (by rfl)⟩
      simp -implicitDefEqProofs[H,g48',ek]
     have g48':=zN g48;replace H:=And.intro g48 H;refine zO 4 ?_;refine WpO.nil ?_;refine⟨rfl,Gh.only 52 8 ?_ (by first|rfl|simp -implicitDefEqProofs[H]) (by rfl)⟩
     simp -implicitDefEqProofs[H,g48',ek]
    refine zC (λc52=>?_) (λc52=>?_)
    ·have c52':=zN c52;replace H:=And.intro c52 H;refine zR ?_;refine WpC.ret ?_;try simp only[aa,aj]
     refine zE ?_;have hf:L.all (ek n)=false:=by
      rw[List.all_eq_false];exact⟨v,hv▸List.getElem_mem hlk,by simpa using c52⟩
     have:Z=none:=by rw[hye,hf];simp
     simp[this,n_]
    have c52':=zN c52;have hpv:0<=v/\v<n:=by simpa[ek] using c52
    obtain⟨j,rfl⟩:∃j:Nat,v=j:=⟨v.toNat,by omega⟩
    have hjl:j<(iL out (L.take k)).length:=by rw[jd];omega
    have hjN:j<N:=by omega
    rw[Int.toNat_natCast] at hst;replace H:=And.intro c52 (And.intro hjl (And.intro hjN H));refine WpC.skip ?_;iterate 2 refine zr ?_
    exact⟨hlt,(),by rw[hall];simpa using c52,Gh.cut' [42,2,6,7,40,41] 2 (by simp -implicitDefEqProofs[H,c34',c52',hst]) (by simp -implicitDefEqProofs[H,c34',c52',hst]) rfl (by simp) (by simp) (by simp)⟩
   refine WpC.exit ?_;have hkn:k=L.length:=by omega
   subst hkn;rw[List.take_of_length_le (Nat.le_refl _)] at hi;have hyes:Z=gc X n (iL out L):=by rw[hye,if_pos hi]
   simp only[List.take_length];refine zr ?_;exact⟨⟨n,iL out L⟩,⟨by simp only;omega,by rw[jd];exact i2,hyes⟩,by simp only;omega,Gh.cut' [7,2,6] 2 (by simp -implicitDefEqProofs[H,c34']) (by simp -implicitDefEqProofs[H,c34']) rfl (by simp) (by simp) (by simp)⟩
  have h0:n0=0:=by omega
  subst h0;have hz:Z=some out:=i3;have hNo:N<=out.length:=by omega
  have htk:List.take N (out.map D.bool)=out.map D.bool:=List.take_of_length_le (by simp;omega)
  replace H:=And.intro d27 (And.intro hNo (And.intro htk H));refine WpC.exit ?_;refine zR ?_;refine WpC.ret ?_;try simp only[aa,aj]
  refine zE ?_;simp[hz,n_]
 ·have hf:iD X root=none:=by rw[iD,if_neg hr]
  rw[hf];have hb:(decide (root<0)||decide ((X.length:Int)<=root))=true:=by simp;omega
  refine ah.enter tabOk Tryz.func121 rfl (by show 2<=58;decide) ?_
  simp only[Tryz.f121];have H:=hb;refine zR ?_;refine WpC.seq ?_;refine WpC.seq ?_;refine WpC.val 18 (.d (.bool ((decide (root<0)||decide ((X.length:Int)<=root))))) ?_ ?_
  ·refine WpC.region ?_;refine zO 3 ?_;refine zS 12 (λg12=>?_) (λg12=>?_)
   ·have g12':=zN g12;replace H:=And.intro g12 H;refine zO 6 ?_;refine WpO.nil ?_;refine⟨rfl,Gh.only 18 10 ?_ (by first|rfl|simp -implicitDefEqProofs[H]) (by rfl)⟩
    simp -implicitDefEqProofs[H,g12']
   have g12':=zN g12;replace H:=And.intro g12 H;refine zO 6 ?_;refine WpO.nil ?_;refine⟨rfl,Gh.only 18 10 ?_ (by first|rfl|simp -implicitDefEqProofs[H]) (by rfl)⟩
   simp -implicitDefEqProofs[H,g12']
  refine zT ?_;refine zR ?_;refine WpC.ret ?_;try simp only[aa,aj]
  refine zE ?_;simp[n_]
def nl (l:List Bd) (p:Int):Int:=(l.getD p.toNat default).kind
def wK (l:List Bd) (n:List UInt8):Int:=
 if (decide (0<=bZ (λb=>b.name==n) l)&&(decide (1<=nl l (bZ (λb=>b.name==n) l))&&decide (nl l (bZ (λb=>b.name==n) l)<=4)))=true then nl l (bZ (λb=>b.name==n) l) else 0
def ec (x:Ex) (K:List Int) (l:List Bd):Int:=
 if x.op==[119,104,111,108,101] then 3 else if x.op==[97,109,111,117,110,116] then 1 else if x.op==[114,97,116,101] then 2 else if x.op==[110,97,109,101] then wK l x.name
 else if x.op==[110,101,103] then(if (decide (aQ K x.a.toNat=1)||decide (aQ K x.a.toNat=3))=true then aQ K x.a.toNat else 0)
 else if x.op==[105,102] then(if (decide (aQ K x.a.toNat=4)&&decide (aQ K x.b.toNat=aQ K x.c.toNat))=true then aQ K x.b.toNat else 0)
 else D6 x.op (aQ K x.a.toNat) (aQ K x.b.toNat)
theorem eu {K:List Int} {v:Int} (h0:0<=v) (h1:v<K.length):∃(i:Nat) (u:Int) (h:i<K.length),v=i/\K[i]=u/\aQ K v.toNat=u:=by
 obtain⟨i,rfl⟩:∃i:Nat,v=i:=⟨v.toNat,by omega⟩
 have hi:i<K.length:=by omega
 exact⟨i,K[i],hi,rfl,rfl,by rw[Int.toNat_natCast,bO hi]⟩
theorem tk {α:Type} {f:α->Bool} {l:List α} {p:Int} (h:bZ f l=p) (h0:0<=p):∃j:Nat,p=j/\j<l.length:=by
 obtain⟨j,h1,h2⟩:=BB (h▸h0);exact⟨j,h▸h1,h2⟩
theorem tY {l:List Bd} {j:Nat} (h:j<l.length):nl l j=l[j].kind:=by
 rw[nl,Int.toNat_natCast,List.getD_eq_getElem?_getD,List.getElem?_eq_getElem h];rfl
set_option maxHeartbeats 4000000 in
theorem xe (x:Ex) (K:List Int) (l:List Bd) (hl:l.length<=1000000000) (hp:∀v∈aE x,0<=v/\v<K.length):ah Tryz.prog 122 [.d x.enc,.d (.list 1 (K.map dI)),.d (tA l)] (.d (dI (ec x K l))):=by
 have hix:=qy l x.cs _ ye (λb=>b.name==x.name) (λb _=>uP b x) hl
 obtain⟨p,hpe⟩:∃p,bZ (λb:Bd=>b.name==x.name) l=p:=⟨_,rfl⟩
 rw[hpe] at hix;have hnk:wK l x.name=if (decide (0<=p)&&(decide (1<=nl l p)&&decide (nl l p<=4)))=true then nl l p else 0:=by rw[wK,hpe]
 have hneg:x.op=[110,101,103]->0<=x.a/\x.a<K.length:=λh=>hp _ (by simp[aE,h])
 have hif:x.op=[105,102]->(0<=x.a/\x.a<K.length)/\(0<=x.b/\x.b<K.length)/\0<=x.c/\x.c<K.length:=λh=>⟨hp _ (by simp[aE,h]),hp _ (by simp[aE,h]),hp _ (by simp[aE,h])⟩
 have htwo:¬x.op=[119,104,111,108,101]->¬x.op=[97,109,111,117,110,116]->¬x.op=[114,97,116,101]->¬x.op=[110,97,109,101]->¬x.op=[110,101,103]->¬x.op=[105,102]->(0<=x.a/\x.a<K.length)/\(0<=x.b/\x.b<K.length):=
  λh1 h2 h3 h4 h5 h6=>⟨hp _ (by simp[aE,h1,h2,h3,h4,h5,h6]),hp _ (by simp[aE,h1,h2,h3,h4,h5,h6])⟩
 refine ah.enter tabOk Tryz.func122 rfl (by show 3<=104;decide) ?_
 simp only[Tryz.f122];have H:=trivial;refine zR ?_;refine WpC.seq ?_;refine zR ?_;refine WpC.block ?_;refine zR ?_;refine zC (λc10=>?_) (λc10=>?_)
 ·have c10':=zN c10;replace H:=And.intro c10 H;refine zR ?_;refine WpC.ret ?_;try simp only[aa,aj]
  refine zE ?_;simp[ec,c10']
 have c10':=zN c10;replace H:=And.intro c10 H;refine zR ?_;refine zC (λc12=>?_) (λc12=>?_)
 ·have c12':=zN c12;replace H:=And.intro c12 H;refine zR ?_;refine WpC.ret ?_;try simp only[aa,aj]
  refine zE ?_;simp[ec,c10',c12']
 have c12':=zN c12;replace H:=And.intro c12 H;refine zR ?_;refine zC (λc14=>?_) (λc14=>?_)
 ·have c14':=zN c14;replace H:=And.intro c14 H;refine zR ?_;refine WpC.ret ?_;try simp only[aa,aj]
  refine zE ?_;simp[ec,c10',c12',c14']
 have c14':=zN c14;replace H:=And.intro c14 H;refine zR ?_;refine zC (λc16=>?_) (λc16=>?_)
 ·have c16':=zN c16;replace H:=And.intro c16 H;refine WpC.seq ?_;refine WpC.region ?_;refine zO 2 ?_;refine zB qV (hix) ?_;refine zO 1 ?_;refine WpO.nil ?_;refine WpC.seq ?_;refine WpC.seq ?_;refine WpC.val 38 (.d (.bool ((decide (0<=p)&&(decide (1<=nl l p)&&decide (nl l p<=4)))))) ?_ ?_
  ·refine WpC.region ?_;refine zO 3 ?_;refine zS 23 (λg23=>?_) (λg23=>?_)
   ·have g23':=zN g23;obtain⟨j,rfl,hj⟩:=tk hpe (by simpa using g23)
    have hbj:=tY hj;obtain⟨q,hq⟩:∃q,l[j]=q:=⟨_,rfl⟩
    rw[hq] at hbj;rw[hbj];replace H:=And.intro g23 (And.intro hj (And.intro hq H));refine zO 8 ?_;refine zS 31 (λg31=>?_) (λg31=>?_)
    ·have g31':=zN g31;replace H:=And.intro g31 H;refine zO 7 ?_;refine WpO.nil ?_;refine⟨rfl,Gh.only 38 20 ?_ (by first|rfl|simp -implicitDefEqProofs[H]) (by rfl)⟩
     simp -implicitDefEqProofs[H,g23',g31']
    have g31':=zN g31;replace H:=And.intro g31 H;refine zO 7 ?_;refine WpO.nil ?_;refine⟨rfl,Gh.only 38 20 ?_ (by first|rfl|simp -implicitDefEqProofs[H]) (by rfl)⟩
    simp -implicitDefEqProofs[H,g23',g31']
   have g23':=zN g23;replace H:=And.intro g23 H;refine zO 12 ?_;refine zO 3 ?_;refine WpO.nil ?_;refine⟨rfl,Gh.only 38 19 ?_ (by first|rfl|simp -implicitDefEqProofs[H]) (by rfl)⟩
   simp -implicitDefEqProofs[H,g23']
  refine zC (λc38=>?_) (λc38=>?_)
  ·have c38':=zN c38;have c38b:=c38;simp only[Bool.and_eq_true,decide_eq_true_eq] at c38b;obtain⟨j,rfl,hj⟩:=tk hpe c38b.1;have hbj:=tY hj;obtain⟨q,hq⟩:∃q,l[j]=q:=⟨_,rfl⟩
   rw[hq] at hbj;replace H:=And.intro c38 (And.intro hj (And.intro hq H));refine zR ?_;refine WpC.ret ?_;try simp only[aa,aj]
   refine zE ?_;rw[if_pos c38] at hnk;simp[ec,c10',c12',c14',c16',hnk,hbj]
  have c38':=zN c38;replace H:=And.intro c38 H;refine WpC.skip ?_;refine zR ?_;refine WpC.ret ?_;try simp only[aa,aj]
  refine zE ?_;rw[if_neg (by rw[c38];decide)] at hnk
  simp[ec,c10',c12',c14',c16',hnk]
 have c16':=zN c16;replace H:=And.intro c16 H;refine zR ?_;refine zC (λc44=>?_) (λc44=>?_)
 ·have c44':=zN c44;obtain⟨a,u,ha,hae,hau,hai⟩:=eu (hneg (by simpa using c44)).1 (hneg (by simpa using c44)).2
  replace H:=And.intro c44 (And.intro ha (And.intro hae (And.intro hau H)));refine WpC.seq ?_;refine WpC.seq ?_;refine WpC.region ?_;refine zO 7 ?_;refine zS 52 (λg52=>?_) (λg52=>?_)
  ·have g52':=zN g52;replace H:=And.intro g52 H;refine zO 7 ?_;refine WpO.nil ?_;refine zT ?_;refine zR ?_;refine WpC.ret ?_;try simp only[aa,aj]
   refine zE ?_;simp[ec,c10',c12',c14',c16',c44',hai,g52']
  have g52':=zN g52;replace H:=And.intro g52 H;refine zO 7 ?_;refine WpO.nil ?_;refine zC (λc59=>?_) (λc59=>?_)
  ·have c59':=zN c59;replace H:=And.intro c59 H;refine zR ?_;refine WpC.ret ?_;try simp only[aa,aj]
   refine zE ?_;simp[ec,c10',c12',c14',c16',c44',hai,g52',c59']
  have c59':=zN c59;replace H:=And.intro c59 H;refine WpC.skip ?_;refine zR ?_;refine WpC.ret ?_;try simp only[aa,aj]
  refine zE ?_;simp[ec,c10',c12',c14',c16',c44',hai,g52',c59']
 have c44':=zN c44;replace H:=And.intro c44 H;refine zR ?_;refine zC (λc65=>?_) (λc65=>?_)
 ·have c65':=zN c65;have hif:=hif (by simpa using c65)
  obtain⟨a,u,ha,hae,hau,hai⟩:=eu hif.1.1 hif.1.2;obtain⟨a2,u2,ha2,hae2,hau2,hai2⟩:=eu hif.2.1.1 hif.2.1.2;obtain⟨a3,u3,ha3,hae3,hau3,hai3⟩:=eu hif.2.2.1 hif.2.2.2;replace H:=And.intro c65 (And.intro ha (And.intro hae (And.intro hau (And.intro ha2 (And.intro hae2 (And.intro hau2 (And.intro ha3 (And.intro hae3 (And.intro hau3 H)))))))));refine WpC.seq ?_;refine WpC.seq ?_;refine WpC.drawn tabOk (by kernel_rfl) 0 (by simp) ?_
  iterate 2 refine yO 3 ?_
  refine yO 1 ?_;refine yS 73 (λg73=>?_) (λg73=>?_)
  ·have g73':=zN g73;replace H:=And.intro g73 H;iterate 4 refine yO 3 ?_
   refine DrO.nil ⟨by kernel_rfl,?_⟩
   refine zC (λc85=>?_) (λc85=>?_)
   ·have c85':=zN c85;replace H:=And.intro c85 H;refine zR ?_;refine WpC.ret ?_;try simp only[aa,aj]
    refine zE ?_;simp[ec,c10',c12',c14',c16',c44',c65',hai,hai2,hai3,g73',c85']
   have c85':=zN c85;replace H:=And.intro c85 H;refine WpC.skip ?_;refine zR ?_;refine WpC.ret ?_;try simp only[aa,aj]
   refine zE ?_;simp[ec,c10',c12',c14',c16',c44',c65',hai,hai2,hai3,g73',c85']
  have g73':=zN g73;replace H:=And.intro g73 H;iterate 4 refine yO 3 ?_
  refine DrO.nil ⟨by kernel_rfl,?_⟩
  refine zF ?_;refine WpC.skip ?_;refine zR ?_;refine WpC.ret ?_;try simp only[aa,aj]
  refine zE ?_;simp[ec,c10',c12',c14',c16',c44',c65',hai,hai2,hai3,g73']
 have c65':=zN c65;have htwo:=htwo (by simpa using c10) (by simpa using c12) (by simpa using c14) (by simpa using c16) (by simpa using c44) (by simpa using c65)
 obtain⟨a,u,ha,hae,hau,hai⟩:=eu htwo.1.1 htwo.1.2;obtain⟨a2,u2,ha2,hae2,hau2,hai2⟩:=eu htwo.2.1 htwo.2.2;have htc:=yY x.op u u2;replace H:=And.intro c65 (And.intro ha (And.intro hae (And.intro hau (And.intro ha2 (And.intro hae2 (And.intro hau2 H))))));refine WpC.skip ?_;refine WpC.seq ?_;refine WpC.drawn tabOk (by kernel_rfl) 0 (by simp) ?_
 iterate 4 refine yO 3 ?_
 refine yG yd (htc) ?_;refine yO 1 ?_;refine DrO.nil ⟨by kernel_rfl,?_⟩
 refine WpC.ret ?_;try simp only[aa,aj]
 refine zE ?_;simp[ec,c10',c12',c14',c16',c44',c65',hai,hai2]
theorem AQ {n:Nat}:∀(l:List Int) (out:List Bool),(∀v∈l,v.toNat<n)->∀i,n<=i->(iL out l).getD i false=out.getD i false:=by
 intro l;induction l with
 |nil=>intro out _ i _;rfl
 |cons v l ih=>
  intro out h i hi;have h1:=h v (List.mem_cons_self ..);have h2:=ih (out.set v.toNat true) (λw hw=>h w (List.mem_cons_of_mem _ hw)) i hi
  have h3:(out.set v.toNat true).getD i false=out.getD i false:=by
   rw[List.getD_eq_getElem?_getD,List.getD_eq_getElem?_getD,List.getElem?_set_ne (by omega)]
  exact h2.trans h3
theorem qf {X:List Ex}:∀(n:Nat) (out nd:List Bool),gc X n out=some nd->nd.length=out.length/\(∀i,n<=i->nd.getD i false=out.getD i false)/\∀i,i<n->nd.getD i false=true->(aE (X.getD i default)).all (ek i)=true:=by
 intro n;induction n with
 |zero=>intro out nd h;cases h;exact⟨rfl,λ_ _=>rfl,λi hi=>absurd hi (Nat.not_lt_zero _)⟩
 |succ n ih=>
  intro out nd h;rw[gc] at h;by_cases hb:out.getD n false=true
  ·rw[if_pos hb] at h;by_cases ha:(aE (X.getD n default)).all (ek n)=true
   ·rw[if_pos ha] at h;obtain⟨h1,h2,h3⟩:=ih _ _ h;rw[jd] at h1;have hlt:∀v∈aE (X.getD n default),v.toNat<n:=λv hv=>by
     have:=List.all_eq_true.1 ha v hv;simp[ek] at this;omega
    refine⟨h1,λi hi=>?_,λi hi hd=>?_⟩
    ·rw[h2 i (by omega),AQ _ _ hlt i (by omega)]
    ·rcases Nat.lt_succ_iff_lt_or_eq.1 hi with q|q
     ·exact h3 i q hd
     ·subst q;exact ha
   ·rw[if_neg ha] at h;cases h
  ·rw[if_neg hb] at h;obtain⟨h1,h2,h3⟩:=ih _ _ h;refine⟨h1,λi hi=>h2 i (by omega),λi hi hd=>?_⟩
   rcases Nat.lt_succ_iff_lt_or_eq.1 hi with q|q
   ·exact h3 i q hd
   ·subst q;rw[h2 i (Nat.le_refl _)] at hd;exact absurd hd hb
theorem kM {X:List Ex} {root:Int} {nd:List Bool} (h:iD X root=some nd):∃m:Nat,root=m/\m<X.length/\nd.length=m+1/\∀i,i<m+1->nd.getD i false=true->∀v∈aE (X.getD i default),0<=v/\v<i:=by
 unfold iD at h;split at h
 ·rename_i hr;obtain⟨m,rfl⟩:∃m:Nat,root=m:=⟨root.toNat,by omega⟩
  rw[Int.toNat_natCast] at h;obtain⟨h1,h2,h3⟩:=qf _ _ _ h;refine⟨m,rfl,by omega,by rw[h1];simp,λi hi hd v hv=>?_⟩
  have:=List.all_eq_true.1 (h3 i hi hd) v hv;simp[ek] at this;omega
 ·cases h
def Fz (x:Ex) (l:List Bd):Int:=if (x.op==[110,97,109,101]&&!l.any (λb=>b.name==x.name))=true then 5 else 7
def xg (X:List Ex) (l:List Bd) (nd:List Bool) (i:Nat) (K:List Int):Except (Int×Int) (List Int):=
 if nd.getD i false=true then(if ec (X.getD i default) K l=0 then .error (i,Fz (X.getD i default) l) else .ok (K.set i (ec (X.getD i default) K l))) else .ok K
def gk (X:List Ex) (l:List Bd) (nd:List Bool):Nat->Except (Int×Int) (List Int)
 |0=> .ok (List.replicate nd.length 0)
 |n+1=>match gk X l nd n with| .error e=> .error e| .ok K=>xg X l nd n K
theorem uQ {X:List Ex} {l:List Bd} {nd:List Bool} {n:Nat} {e:Int×Int} (h:gk X l nd n= .error e):∀m,n<=m->gk X l nd m= .error e:=by
 intro m hm;induction m with
 |zero=>
  have:n=0:=by omega
  subst this;exact h
 |succ m ih=>
  by_cases hq:n=m+1
  ·subst hq;exact h
  ·rw[gk,ih (by omega)]
def cJ (X:List Ex) (root:Int) (l:List Bd):Int×Int×Int:=match iD X root with
 |none=>(0,0,1)
 |some nd=>match gk X l nd nd.length with| .ok K=>(aQ K root.toNat,0,0)| .error e=>(0,e.1,e.2)
set_option maxHeartbeats 4000000 in
theorem te (R:List Ru) (X:List Ex) (root:Int) (l:List Bd) (hX:X.length<=500000000) (hl:l.length<=1000000000):
 ah Tryz.prog 92 [.d (.agg [aL R,aM X]),.d (dI root),.d (tA l)] (.tup [.d (dI (cJ X root l).1),.d (dI (cJ X root l).2.1),.d (dI (cJ X root l).2.2)]):=by
 have hnd:=uE R X root hX;cases hn:iD X root with
 |none=>
  rw[hn] at hnd;simp only[n_,Option.getD_none,Option.isSome_none,List.map_nil] at hnd;have hr:cJ X root l=(0,0,1):=by rw[cJ,hn]
  rw[hr];refine ah.enter tabOk Tryz.func92 rfl (by show 3<=68;decide) ?_
  simp only[Tryz.f92];have H:=trivial;refine zR ?_;refine WpC.seq ?_;refine WpC.region ?_;refine zO 2 ?_;refine zG q9 (hnd) ?_;refine zO 5 ?_;refine WpO.nil ?_;refine WpC.seq ?_;refine zR ?_;refine zT ?_;refine zR ?_;refine WpC.ret ?_;try simp only[aa,aj]
  refine zE ?_;simp -implicitDefEqProofs[H]
 |some nd=>
  rw[hn] at hnd;simp only[n_,Option.getD_some,Option.isSome_some] at hnd;obtain⟨m,rfl,hm,hlen,hpt⟩:=kM hn;have hr:cJ X m l=match gk X l nd nd.length with| .ok K=>(aQ K m,0,0)| .error e=>(0,e.1,e.2):=by rw[cJ,hn];rfl
  obtain⟨N,hN⟩:∃N,nd.length=N:=⟨_,rfl⟩
  have hN8:(N:Int)<=8589934592:=by omega
  have hmN:m<N:=by omega
  rw[hN] at hr;obtain⟨r,hrr⟩:∃r,cJ X m l=r:=⟨_,rfl⟩
  rw[hrr] at hr ⊢;refine ah.enter tabOk Tryz.func92 rfl (by show 3<=68;decide) ?_
  simp only[Tryz.f92];have H:=And.intro hN hN8;refine zR ?_;refine WpC.seq ?_;refine WpC.region ?_;refine zO 2 ?_;refine zG q9 (hnd) ?_;refine zO 5 ?_;refine WpO.nil ?_;refine WpC.seq ?_;refine zR ?_;refine zF ?_;refine WpC.skip ?_;refine zR ?_;refine WpC.seq ?_;refine zR ?_;refine WpC.block ?_;refine WpC.loopK [1,2,3,11,26,27] [28] (N) (List.replicate N 0:List Int) (λk K=>[(28,.d (.int .i64 k))]) (λk K=>[.cells 41 [.d (aL R),.d (aM X)],.arr 3 1 (K.map dI)]) (λk K=>K.length=N/\gk X l nd k= .ok K) (by simp -implicitDefEqProofs[H]<;>rfl) (Gh.cut' [28,1,2,3,11,26,27] 2 (by simp -implicitDefEqProofs[H]) (by simp -implicitDefEqProofs[H]) rfl (by simp) (by simp) (by simp)) (⟨by simp,by rw[gk,hN]⟩) ?_
  rintro k K hk hi;simp only[List.cons_append,List.nil_append];refine zR ?_;refine WpC.seq (zL (k<N) (λhlt=>?_) (λhge=>?_))
  ·refine WpC.skip ?_;obtain⟨i1,i2⟩:=hi;have hkn:k<nd.length:=by omega
   have hkX:k<X.length:=by omega
   have hkK:k<K.length:=by omega
   obtain⟨b,hb⟩:∃b,nd[k]=b:=⟨_,rfl⟩
   obtain⟨x,hx⟩:∃x,X[k]=x:=⟨_,rfl⟩
   have hbd:nd.getD k false=b:=by rw[List.getD_eq_getElem?_getD,List.getElem?_eq_getElem hkn,hb];rfl
   have hxd:X.getD k default=x:=by rw[List.getD_eq_getElem?_getD,List.getElem?_eq_getElem hkX,hx];rfl
   have hw:IntKind.i64.wrap ((k:Int)+1)=k+1:=am (by omega) (by omega)
   have hko:gk X l nd (k+1)=xg X l nd k K:=by rw[gk,i2]
   have hpk:=hpt k (by omega)
   rw[xg,hbd,hxd] at hko;rw[hbd,hxd] at hpk;replace H:=And.intro hlt (And.intro hkn (And.intro hkX (And.intro hkK (And.intro hb (And.intro hx (And.intro hw (And.intro i1 H)))))));refine WpC.seq ?_;refine WpC.block ?_;refine zR ?_;refine WpC.seq ?_;refine zR ?_;refine zC (λc34=>?_) (λc34=>?_)
   ·have c34':=zN c34;have hko0:gk X l nd (k+1)= .ok K:=by
     have hbf:b=false:=by simpa using c34
     rw[hko,hbf];simp
    replace H:=And.intro c34 H;refine WpC.exit ?_;refine zr ?_;exact⟨hlt,K,⟨i1,hko0⟩,Gh.cut' [28,1,2,3,11,26,27] 2 (by simp -implicitDefEqProofs[H,c34']) (by simp -implicitDefEqProofs[H,c34']) rfl (by simp) (by simp) (by simp)⟩
   have c34':=zN c34;have hbt:b=true:=by simpa using c34
   rw[hbt,if_pos rfl] at hko;have hkc:=xe x K l hl λw hw=>by
    have:=hpk hbt w hw;omega
   have hcf:=qN l x.cs _ yt (λb=>b.name==x.name) (λb _=>uO b x) hl
   obtain⟨v,hv⟩:∃v,ec x K l=v:=⟨_,rfl⟩
   obtain⟨cb,hcb⟩:∃v,l.any (λb=>b.name==x.name)=v:=⟨_,rfl⟩
   rw[hv] at hkc hko;rw[hcb] at hcf;replace H:=And.intro c34 H;refine WpC.skip ?_;refine zR ?_;refine WpC.seq ?_;refine WpC.seq ?_;refine WpC.region ?_;refine zO 5 ?_;refine zB yu (hkc) ?_;refine zO 2 ?_;refine WpO.nil ?_;refine zR ?_;refine zD (¬v=0) (λd51=>?_) (λd51=>?_)
   ·have hko1:gk X l nd (k+1)= .ok (K.set k v):=by rw[hko,if_neg d51]
    replace H:=And.intro d51 H;refine WpC.exit ?_;refine zr ?_;exact⟨hlt,K.set k v,⟨by simpa using i1,hko1⟩,Gh.cut' [28,1,2,3,11,26,27] 2 (by simp -implicitDefEqProofs[H,c34']) (by simp -implicitDefEqProofs[H,c34']) rfl (by simp) (by simp) (by simp)⟩
   have hv0:v=0:=by omega
   have hke:=uQ (hko.trans (if_pos hv0)) N (by omega)
   rw[hke] at hr;simp only at hr;have hkE:Fz x l=if (x.op==[110,97,109,101]&&!cb)=true then 5 else 7:=by rw[Fz,hcb]
   replace H:=And.intro d51 H;refine WpC.skip ?_;refine WpC.seq ?_;refine WpC.seq ?_;refine WpC.val 60 (.d (.bool ((x.op==[110,97,109,101]&&!cb)))) ?_ ?_
   ·refine WpC.region ?_;refine zO 4 ?_;refine zS 55 (λg55=>?_) (λg55=>?_)
    ·have g55':=zN g55;replace H:=And.intro g55 H;refine zO 2 ?_;refine zB q8 (hcf) ?_;refine zO 2 ?_;refine WpO.nil ?_;refine⟨rfl,Gh.only 60 10 ?_ (by first|rfl|simp -implicitDefEqProofs[H]) (by rfl)⟩
     simp -implicitDefEqProofs[H,g55']
    have g55':=zN g55;replace H:=And.intro g55 H;refine zO 5 ?_;refine WpO.nil ?_;refine⟨rfl,Gh.only 60 10 ?_ (by first|rfl|simp -implicitDefEqProofs[H]) (by rfl)⟩
    simp -implicitDefEqProofs[H,g55']
   refine zC (λc60=>?_) (λc60=>?_)
   ·have c60':=zN c60;replace H:=And.intro c60 H;refine zR ?_;refine WpC.ret ?_;try simp only[aa,aj]
    refine zE ?_;rw[if_pos c60] at hkE;rw[hr,hkE];simp
   have c60':=zN c60;replace H:=And.intro c60 H;refine WpC.skip ?_;refine zR ?_;refine WpC.ret ?_;try simp only[aa,aj]
   refine zE ?_;rw[if_neg (by rw[c60];decide)] at hkE
   rw[hr,hkE];simp
  refine WpC.exit ?_;have hkn:k=N:=by omega
  subst hkn;obtain⟨i1,i2⟩:=hi;rw[i2] at hr;simp only at hr;have hmK:m<K.length:=by omega
  obtain⟨u,hu⟩:∃u,K[m]=u:=⟨_,rfl⟩
  have hiu:aQ K m=u:=by rw[bO hmK,hu]
  rw[hiu] at hr;have hNK:=Nat.le_of_eq i1.symm;replace H:=And.intro hmK (And.intro hu (And.intro hmN (And.intro hNK H)));refine zR ?_;refine WpC.ret ?_;try simp only[aa,aj]
  refine zE ?_;rw[hr];simp
end Go.Proofs.YtlhmejigmokbhaaGreatDoor.Pay
