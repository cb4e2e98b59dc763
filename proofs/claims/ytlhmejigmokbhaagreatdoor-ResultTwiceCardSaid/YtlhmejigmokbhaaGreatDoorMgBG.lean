/- The texts VaA, VaB, one behind the other. No statement of the seed is proved here. -/
import Derived.Test.YtlhmejigmokbhaaGreatDoorMgX
import Derived.Test.YtlhmejigmokbhaaGreatDoorMgBF
namespace Go.Proofs.YtlhmejigmokbhaaGreatDoor.Pay
open Go Go.RowKit
set_option linter.unusedVariables false
set_option linter.unusedSimpArgs false
structure Ce where
 kind:Int
 n:Int
 over:Bool
 deriving DecidableEq,Inhabited
@[reducible] def Ce.cs (p:Ce):List D:=[dI p.kind,dI p.n,.bool p.over]
@[reducible] def Ce.enc (p:Ce):D:= .agg p.cs
structure Wo where
 name:List UInt8
 kind:Int
 val:Int
 deriving DecidableEq,Inhabited
@[reducible] def Wo.cs (p:Wo):List D:=[.str p.name,dI p.kind,dI p.val]
@[reducible] def Wo.enc (p:Wo):D:= .agg p.cs
@[reducible] def xP (l:List Wo):D:= .list 3 (l.map Wo.enc)
def cg (w:Wo):Bool:=if w.kind=2 then cG w.val else if w.kind=4 then(decide (w.val=0)||decide (w.val=1)) else aD w.val
theorem nG (w:Wo):ah Tryz.prog 67 [.d w.enc] (.d (.bool (cg w))):=by
 have h1:=dQ w.val;have h2:=aX w.val;obtain⟨b1,e1⟩:∃b,cG w.val=b:=⟨_,rfl⟩
 obtain⟨b2,e2⟩:∃b,aD w.val=b:=⟨_,rfl⟩
 unfold cg;rw[e1] at h1 ⊢;rw[e2] at h2 ⊢;refine ah.enter tabOk Tryz.func67 rfl (by show 1<=23;decide) ?_
 simp only[Tryz.f67];have H:=trivial;refine zR ?_;refine WpC.seq ?_;refine zR ?_;refine WpC.block ?_;refine zR ?_;refine zD (w.kind=2) (λd5=>?_) (λd5=>?_)
 ·replace H:=And.intro d5 H;refine WpC.seq ?_;refine WpC.region ?_;refine zO 2 ?_;refine zG cr (h1) ?_;refine zO 1 ?_;refine WpO.nil ?_;refine WpC.ret ?_;try simp only[aa,aj]
  refine zE ?_;simp_all
 replace H:=And.intro d5 H;refine zR ?_;refine zD (w.kind=4) (λd10=>?_) (λd10=>?_)
 ·replace H:=And.intro d10 H;refine WpC.seq ?_;refine WpC.region ?_;refine zO 4 ?_;refine zS 15 (λg15=>?_) (λg15=>?_)
  ·have g15':=zN g15;replace H:=And.intro g15 H;refine zO 5 ?_;refine WpO.nil ?_;refine WpC.ret ?_;try simp only[aa,aj]
   refine zE ?_;simp_all
  have g15':=zN g15;replace H:=And.intro g15 H;refine zO 5 ?_;refine WpO.nil ?_;refine WpC.ret ?_;try simp only[aa,aj]
  refine zE ?_;simp_all
 replace H:=And.intro d10 H;refine WpC.skip ?_;refine WpC.seq ?_;refine WpC.region ?_;refine zO 2 ?_;refine zG a_ (h2) ?_;refine zO 1 ?_;refine WpO.nil ?_;refine WpC.ret ?_;try simp only[aa,aj]
 refine zE ?_;simp_all
def dU (b:Bool):Ce:=⟨4,if b=true then 1 else 0,false⟩
theorem iu (b:Bool):ah Tryz.prog 169 [.d (.bool b)] (.d (dU b).enc):=by
 refine ah.enter tabOk Tryz.func169 rfl (by show 1<=6;decide) ?_
 simp only[Tryz.f169];have H:=trivial;refine zR ?_;refine WpC.seq ?_;refine zR ?_;refine zC (λc3=>?_) (λc3=>?_)
 ·have c3':=zN c3;replace H:=And.intro c3 H;refine zR ?_;refine WpC.ret ?_;try simp only[aa,aj]
  refine zE ?_;simp_all [dU]
 have c3':=zN c3;replace H:=And.intro c3 H;refine WpC.skip ?_;refine zR ?_;refine WpC.ret ?_;try simp only[aa,aj]
 refine zE ?_;simp_all [dU]
def fw:List Wo->List UInt8->Ce
 |[],_=>⟨0,0,false⟩
 |w::l,n=>if w.name==n then⟨w.kind,w.val,false⟩ else fw l n
theorem wJ (l:List Wo) (n:List UInt8) (hl:l.length<=1000000000):ah Tryz.prog 125 [.d (xP l),.d (.str n)] (.d (fw l n).enc):=by
 obtain⟨Z,hZ⟩:∃Z,fw l n=Z:=⟨_,rfl⟩
 rw[hZ];refine ah.enter tabOk Tryz.func125 rfl (by show 2<=24;decide) ?_
 simp only[Tryz.f125];have H:=trivial;refine zR ?_;refine WpC.seq ?_;refine zR ?_;refine WpC.block ?_;refine WpC.loopK [1,4,7,8] [9] (l.length) (():Unit) (λk _=>[(9,.d (.int .i64 k))]) (λk _=>[.cells 173 [.d (dI 0),.d (dI 0),.d (.bool false)]]) (λk _=>fw (l.drop k) n=Z) (by simp -implicitDefEqProofs[H]<;>rfl) (Gh.cut' [9,1,4,7,8] 1 (by simp -implicitDefEqProofs[H]) (by simp -implicitDefEqProofs[H]) rfl (by simp) (by simp) (by simp)) (hZ) ?_
 rintro k ⟨⟩ hk hi;simp only[List.cons_append,List.nil_append];refine zR ?_;refine WpC.seq (zL (k<l.length) (λhlt=>?_) (λhge=>?_))
 ·refine WpC.skip ?_;have hkl:k<l.length:=hlt;obtain⟨w,hw⟩:∃w,l[k]=w:=⟨_,rfl⟩
  have hd:l.drop k=w::l.drop (k+1):=by rw[List.drop_eq_getElem_cons hkl,hw]
  rw[hd,fw] at hi;have hwk:IntKind.i64.wrap ((k:Int)+1)=k+1:=am (by omega) (by omega)
  replace H:=And.intro hlt (And.intro hkl (And.intro hw (And.intro hwk H)));refine WpC.seq ?_;refine WpC.block ?_;iterate 2 refine zR ?_
  refine zC (λc16=>?_) (λc16=>?_)
  ·have c16':=zN c16;replace H:=And.intro c16 H;refine zR ?_;refine WpC.ret ?_;try simp only[aa,aj]
   refine zE ?_;rw[if_pos c16] at hi;subst hi;simp
  have c16':=zN c16;replace H:=And.intro c16 H;refine WpC.skip ?_;refine zr ?_;exact⟨hlt,(),by rw[if_neg (by rw[c16];decide)] at hi;exact hi,Gh.cut' [9,1,4,7,8] 1 (by simp -implicitDefEqProofs[H,c16']) (by simp -implicitDefEqProofs[H,c16']) rfl (by simp) (by simp) (by simp)⟩
 refine WpC.exit ?_;have hkn:k=l.length:=by omega
 subst hkn;rw[List.drop_length,fw] at hi;refine zR ?_;refine WpC.ret ?_;try simp only[aa,aj]
 refine zE ?_;subst hi;simp
theorem sY (a:Int) (ha:aC a):ah Tryz.prog 126 [.d (dI a)] (.tup [.d (dI (if aD a=true then -a else 0)),.d (dI (if aD a=true then 0 else 3))]):=by
 have h:=aX a;by_cases hr:aD a=true
 ·have hw:IntKind.i64.wrap (-a)= -a:=by
   unfold aC at ha;have: -9223372036854775807<=a:=of_decide_eq_true hr;exact am (by omega) (by omega)
  rw[if_pos hr,if_pos hr];rw[hr] at h;refine ah.enter tabOk Tryz.func126 rfl (by show 1<=9;decide) ?_
  simp only[Tryz.f126];have H:=hw;refine zR ?_;refine WpC.seq ?_;refine WpC.seq ?_;refine WpC.region ?_;refine zO 1 ?_;refine zG a_ (h) ?_;refine zO 1 ?_;refine WpO.nil ?_;refine zF ?_;refine WpC.skip ?_;refine zR ?_;refine WpC.ret ?_;try simp only[aa,aj]
  refine zE ?_;simp -implicitDefEqProofs[H]
 ·rw[if_neg hr,if_neg hr];rw[show aD a=false from by simpa using hr] at h
  refine ah.enter tabOk Tryz.func126 rfl (by show 1<=9;decide) ?_
  simp only[Tryz.f126];have H:=trivial;refine zR ?_;refine WpC.seq ?_;refine WpC.seq ?_;refine WpC.region ?_;refine zO 1 ?_;refine zG a_ (h) ?_;refine zO 1 ?_;refine WpO.nil ?_;refine zT ?_;refine zR ?_;refine WpC.ret ?_;try simp only[aa,aj]
  refine zE ?_;simp -implicitDefEqProofs[H]
def pM (a b:Int):Bool:=aD b&&h_ a (-b)
theorem AB (a b:Int) (ha:aC a) (hb:aC b):ah Tryz.prog 167 [.d (dI a),.d (dI b)] (.tup [.d (dI (if pM a b=true then a-b else 0)),.d (dI (if pM a b=true then 0 else 3))]):=by
 have h:=sY b hb;unfold pM;by_cases hr:aD b=true
 ·have hbn:aC (-b):=by
   unfold aC at hb ⊢;have: -9223372036854775807<=b:=of_decide_eq_true hr;omega
  have h2:=py a (-b) ha hbn;rw[if_pos hr,if_pos hr] at h;rw[hr,Bool.true_and,Int.sub_eq_add_neg];refine ah.enter tabOk Tryz.func167 rfl (by show 2<=21;decide) ?_
  simp only[Tryz.f167];have H:=trivial;refine zR ?_;refine WpC.seq ?_;refine WpC.region ?_;refine zO 1 ?_;refine zG mH (h) ?_;refine zO 5 ?_;refine WpO.nil ?_;refine WpC.seq ?_;refine zR ?_;refine zF ?_;refine WpC.skip ?_;refine WpC.seq ?_;refine WpC.region ?_;refine zO 2 ?_;refine zG mL (h2) ?_;refine zO 4 ?_;refine WpO.nil ?_;refine WpC.ret ?_;try simp only[aa,aj]
  refine zE ?_;simp -implicitDefEqProofs[H]
 ·rw[if_neg hr,if_neg hr] at h;rw[show aD b=false from by simpa using hr,Bool.false_and]
  refine ah.enter tabOk Tryz.func167 rfl (by show 2<=21;decide) ?_
  simp only[Tryz.f167];have H:=trivial;refine zR ?_;refine WpC.seq ?_;refine WpC.region ?_;refine zO 1 ?_;refine zG mH (h) ?_;refine zO 5 ?_;refine WpO.nil ?_;refine WpC.seq ?_;refine zR ?_;refine zT ?_;refine zR ?_;refine WpC.ret ?_;try simp only[aa,aj]
  refine zE ?_;simp -implicitDefEqProofs[H]
def up3 (q l c:Nat):Bool:=if c-l<l then true else if l<c-l\/l=0 then false else decide (((q%2:Nat):Int)=1)
theorem D5 (q l c:Nat) (hl:l<=c) (hc:c<=9223372036854775807) (hq:q<=9223372036854775807):ah Tryz.prog 105 [.d (dI 3),.d (.int .u64 q),.d (.int .u64 l),.d (.int .u64 c)] (.d (.bool (up3 q l c))):=by
 have hw:IntKind.u64.wrap ((c:Int)-l)=((c-l:Nat):Int):=by rw[IntKind.wrap_u64];omega
 have hm:(q:Int).tmod 2=((q%2:Nat):Int):=by rw[Int.tmod_eq_emod_of_nonneg (by omega)];omega
 obtain⟨d,hd⟩:∃d,c-l=d:=⟨_,rfl⟩
 obtain⟨m,hmm⟩:∃d,q%2=d:=⟨_,rfl⟩
 unfold up3;rw[hd,hmm];rw[hd] at hw;rw[hmm] at hm;refine ah.enter tabOk Tryz.func105 rfl (by show 4<=39;decide) ?_
 simp only[Tryz.f105];have H:=And.intro hw hm;refine zR ?_;refine WpC.seq ?_;refine zR ?_;refine WpC.block ?_;refine zR ?_;refine zF ?_;refine zR ?_;refine zF ?_;refine WpC.skip ?_;refine zR ?_;refine WpC.seq ?_;refine WpC.block ?_;refine zR ?_;refine zD (d<l) (λd20=>?_) (λd20=>?_)
 ·replace H:=And.intro d20 H;refine zR ?_;refine WpC.ret ?_;try simp only[aa,aj]
  refine zE ?_;simp[d20]
 replace H:=And.intro d20 H;refine WpC.seq ?_;refine WpC.val 24 (.d (.bool ((decide (l<d)||decide (l=0))))) ?_ ?_
 ·refine WpC.region ?_;refine zO 4 ?_;refine zS 28 (λg28=>?_) (λg28=>?_)
  ·have g28':=zN g28;replace H:=And.intro g28 H;refine zO 4 ?_;refine WpO.nil ?_;refine⟨rfl,Gh.only 24 9 ?_ (by first|rfl|simp -implicitDefEqProofs[H]) (by rfl)⟩
   simp -implicitDefEqProofs[H,g28']
  have g28':=zN g28;replace H:=And.intro g28 H;refine zO 4 ?_;refine WpO.nil ?_;refine⟨rfl,Gh.only 24 9 ?_ (by first|rfl|simp -implicitDefEqProofs[H]) (by rfl)⟩
  simp -implicitDefEqProofs[H,g28']
 refine zC (λc24=>?_) (λc24=>?_)
 ·have c24':=zN c24;replace H:=And.intro c24 H;refine zR ?_;refine WpC.ret ?_;try simp only[aa,aj]
  refine zE ?_;simp_all
 have c24':=zN c24;replace H:=And.intro c24 H;refine WpC.skip ?_;refine WpC.seq ?_;refine WpC.region ?_;refine zO 3 ?_;refine zS 34 (λg34=>?_) (λg34=>?_)
 ·try(exfalso;revert g34;simp;done)
  all_goals
   have g34':=zN g34;replace H:=And.intro g34 H;refine zO 5 ?_;refine WpO.nil ?_;refine WpC.ret ?_;try simp only[aa,aj]
   refine zE ?_;simp_all
 ·try(exfalso;revert g34;simp;done)
  all_goals
   have g34':=zN g34;replace H:=And.intro g34 H;refine zO 5 ?_;refine WpO.nil ?_;refine WpC.ret ?_;try simp only[aa,aj]
   refine zE ?_;simp -implicitDefEqProofs[H]
def upV (mode:Int) (q l c:Nat):Bool:=if mode=0 then false else up3 q l c
theorem D4 (mode:Int) (hm:mode=0\/mode=3) (q l c:Nat) (hl:l<=c) (hc:c<=9223372036854775807) (hq:q<=9223372036854775807):ah Tryz.prog 105 [.d (dI mode),.d (.int .u64 q),.d (.int .u64 l),.d (.int .u64 c)] (.d (.bool (upV mode q l c))):=by
 rcases hm with rfl|rfl
 ·exact vu q l c
 ·exact D5 q l c hl hc hq
def wmP (a b:Int):Nat:=a.natAbs*b.natAbs
def wmQ (a b:Int) (c:Nat) (mode:Int):Nat:=wmP a b/c+if (decide (wmP a b/c<=9223372036854775807)&&upV mode (wmP a b/c) (wmP a b%c) c)=true then 1 else 0
def oi (a b:Int) (c:Nat) (mode:Int):Bool:=aD a&&(aD b&&decide (wmQ a b c mode<=9223372036854775807))
def wmR (a b:Int) (c:Nat) (mode:Int):Int:=if oi a b c mode=true then(if (decide (a<0) != decide (b<0))=true then -(wmQ a b c mode:Int) else wmQ a b c mode) else 0
set_option maxHeartbeats 8000000 in
theorem vr (a b:Int) (c:Nat) (mode:Int) (ha:aC a) (hb:aC b) (hc:1<=c) (hc2:c<=10000) (hm:mode=0\/mode=3):
 ah Tryz.prog 80 [.d (dI a),.d (dI b),.d (dI c),.d (dI mode)] (.tup [.d (dI (wmR a b c mode)),.d (dI (if oi a b c mode=true then 0 else 3))]):=by
 unfold aC at ha hb;have hA:a.natAbs<=9223372036854775808:=by omega
 have hB:b.natAbs<=9223372036854775808:=by omega
 have r1:=aX a;have r2:=aX b;have r3:=aX c;rw[show aD c=true from decide_eq_true (by omega)] at r3
 have m0:¬mode<0:=by omega
 have m3:¬3<mode:=by omega
 have c0:¬c=0:=by omega
 obtain⟨ra,hra⟩:∃v,aD a=v:=⟨_,rfl⟩
 obtain⟨rb,hrb⟩:∃v,aD b=v:=⟨_,rfl⟩
 obtain⟨ok,hok⟩:∃v,oi a b c mode=v:=⟨_,rfl⟩
 obtain⟨R,hR⟩:∃v,wmR a b c mode=v:=⟨_,rfl⟩
 have hR0:ok=false->R=0:=λh=>by rw[<-hR,wmR,hok,h];rfl
 have hok0:(ra&&rb)=false->ok=false:=λh=>by rw[<-hok,oi,hra,hrb,<-Bool.and_assoc,h];rfl
 have hok1:ok=(ra&&(rb&&decide (wmQ a b c mode<=9223372036854775807))):=by rw[<-hok,oi,hra,hrb]
 have hR1:ok=true->R=if (decide (a<0) != decide (b<0))=true then -(wmQ a b c mode:Int) else wmQ a b c mode:=λh=>by rw[<-hR,wmR,hok,h];rfl
 rw[hra] at r1;rw[hrb] at r2;have s1:=eT a (by omega)
 have s2:=eT b (by omega)
 have s3:=eT c (by omega)
 rw[show(c:Int).natAbs=c from rfl] at s3
 have hmu:=mf a.natAbs b.natAbs (by omega) (by omega)
 rw[hok,hR];have hP:wmP a b=a.natAbs*b.natAbs:=rfl;obtain⟨P,hPP⟩:∃P,wmP a b=P:=⟨_,rfl⟩
 rw[<-hP,hPP] at hmu;obtain⟨h,hh⟩:∃h,P/18446744073709551616=h:=⟨_,rfl⟩
 obtain⟨l,hl⟩:∃h,P%18446744073709551616=h:=⟨_,rfl⟩
 have hhl:h*18446744073709551616+l=P:=by rw[<-hh,<-hl];exact Nat.div_add_mod' _ _
 have hl2:l<18446744073709551616:=by rw[<-hl];exact Nat.mod_lt _ (by omega)
 rw[hh,hl] at hmu;have hQ:wmQ a b c mode=P/c+if (decide (P/c<=9223372036854775807)&&upV mode (P/c) (P%c) c)=true then 1 else 0:=by rw[wmQ,hPP]
 obtain⟨q,hq⟩:∃q,P/c=q:=⟨_,rfl⟩
 obtain⟨r,hr⟩:∃q,P%c=q:=⟨_,rfl⟩
 have hrc:r<c:=by rw[<-hr];exact Nat.mod_lt _ (by omega)
 rw[hq,hr] at hQ;have hbig:c<=h->18446744073709551616<=q:=λg=>by
  rw[<-hq,Nat.le_div_iff_mul_le (by omega)]
  have:=Nat.mul_le_mul_right 18446744073709551616 g;rw[Nat.mul_comm] at this;omega
 obtain⟨Q,hQQ⟩:∃Q,wmQ a b c mode=Q:=⟨_,rfl⟩
 rw[hQQ] at hQ hR1 hok1;obtain⟨sg,hsg⟩:∃s,(decide (a<0) != decide (b<0))=s:=⟨_,rfl⟩
 rw[hsg] at hR1;have c0':¬(c:Int)<0:=by omega
 refine ah.enter tabOk Tryz.func80 rfl (by show 4<=86;decide) ?_
 simp only[Tryz.f80];have H:=And.intro m0 (And.intro m3 (And.intro c0 c0'));refine zR ?_;refine WpC.seq ?_;refine WpC.block ?_;refine WpC.seq ?_;refine WpC.val 16 (.d (.bool (false))) ?_ ?_
 ·refine WpC.region ?_;refine zO 3 ?_;refine zS 19 (λg19=>?_) (λg19=>?_)
  ·try(exfalso;revert g19;simp;done)
   all_goals
    have g19':=zN g19;replace H:=And.intro g19 H;refine zO 4 ?_;refine WpO.nil ?_;refine⟨rfl,Gh.only 16 8 ?_ (by first|rfl|simp -implicitDefEqProofs[H]) (by rfl)⟩
    simp -implicitDefEqProofs[H,g19']
  ·try(exfalso;revert g19;simp;done)
   all_goals
    have g19':=zN g19;replace H:=And.intro g19 H;refine zO 4 ?_;refine WpO.nil ?_;refine⟨rfl,Gh.only 16 8 ?_ (by first|rfl|simp -implicitDefEqProofs[H]) (by rfl)⟩
    simp -implicitDefEqProofs[H,g19']
 refine zF ?_;refine WpC.seq ?_;refine WpC.val 23 (.d (.bool (!(ra&&rb)))) ?_ ?_
 ·refine WpC.region ?_;refine zO 1 ?_;refine zG a_ (r1) ?_;refine zO 2 ?_;refine zS 27 (λg27=>?_) (λg27=>?_)
  ·have g27':=zN g27;replace H:=And.intro g27 H;refine zO 10 ?_;refine WpO.nil ?_;refine⟨rfl,Gh.only 23 15 ?_ (by first|rfl|simp -implicitDefEqProofs[H]) (by rfl)⟩
   simp -implicitDefEqProofs[H,g27']
  have g27':=zN g27;replace H:=And.intro g27 H;refine zO 1 ?_;refine zG a_ (r2) ?_;refine zO 3 ?_;refine zS 32 (λg32=>?_) (λg32=>?_)
  ·have g32':=zN g32;replace H:=And.intro g32 H;refine zO 5 ?_;refine WpO.nil ?_;refine⟨rfl,Gh.only 23 16 ?_ (by first|rfl|simp -implicitDefEqProofs[H]) (by rfl)⟩
   simp -implicitDefEqProofs[H,g27',g32']
  have g32':=zN g32;replace H:=And.intro g32 H;refine zO 1 ?_;refine zG a_ (r3) ?_;refine zO 3 ?_;refine WpO.nil ?_;refine⟨rfl,Gh.only 23 16 ?_ (by first|rfl|simp -implicitDefEqProofs[H]) (by rfl)⟩
  simp -implicitDefEqProofs[H,g27',g32']
 refine zC (λc23=>?_) (λc23=>?_)
 ·have c23':=zN c23;replace H:=And.intro c23 H;refine zR ?_;refine WpC.ret ?_;try simp only[aa,aj]
  refine zE ?_;have e:ok=false:=hok0 (by cases ra<;>cases rb<;>simp_all)
  simp[e,hR0 e]
 have c23':=zN c23;have hab:ra=true/\rb=true:=by cases ra<;>cases rb<;>simp_all
 replace H:=And.intro c23 H;refine zR ?_;refine zF ?_;refine WpC.skip ?_;refine WpC.seq ?_;refine WpC.region ?_;refine zO 1 ?_;refine zG dY (s1) ?_;refine zO 1 ?_;refine zG dY (s2) ?_;refine zG mK (hmu) ?_;refine zO 5 ?_;refine WpO.nil ?_;refine WpC.seq ?_;refine WpC.region ?_;refine zO 1 ?_;refine zG dY (s3) ?_;refine zO 1 ?_;refine WpO.nil ?_;refine WpC.seq ?_;refine zR ?_;refine zD ((c:Int)<=h) (λd52=>?_) (λd52=>?_)
 ·replace H:=And.intro d52 H;refine zR ?_;refine WpC.ret ?_;try simp only[aa,aj]
  refine zE ?_;have e:ok=false:=by
   have:=hbig (by omega)
   rw[hok1,hQ,decide_eq_false (by omega)]
   simp
  simp[e,hR0 e]
 have hd:=qL h l c (by omega) hl2 (by omega)
 rw[hhl,hq,hr] at hd;have hqs:q<18446744073709551616:=by
  rw[<-hq,Nat.div_lt_iff_lt_mul (by omega)]
  have:=Nat.mul_le_mul_right 18446744073709551616 (show h+1<=c by omega)
  rw[Nat.mul_comm c] at this;omega
 have hup:=λg=>D4 mode hm q r c (by omega) (by omega) g
 obtain⟨u,hu⟩:∃u,upV mode q r c=u:=⟨_,rfl⟩
 rw[hu] at hup hQ;have hwq:IntKind.u64.wrap ((q:Int)+1)=if q=18446744073709551615 then 0 else((q+1:Nat):Int):=by rw[IntKind.wrap_u64];split<;>omega
 replace H:=And.intro d52 H;refine WpC.skip ?_;refine WpC.seq ?_;refine WpC.region ?_;refine zO 3 ?_;refine zG rf (hd) ?_;refine zO 5 ?_;refine WpO.nil ?_;refine WpC.seq ?_;refine WpC.seq ?_;refine WpC.val 68 (.d (.bool ((decide ((q:Int)<=9223372036854775807)&&u)))) ?_ ?_
 ·refine WpC.region ?_;refine zO 3 ?_;refine zS 62 (λg62=>?_) (λg62=>?_)
  ·have g62':=zN g62;replace H:=And.intro g62 H;refine zO 4 ?_;refine zG rc (hup (by have:=g62';omega)) ?_
   refine zO 1 ?_;refine WpO.nil ?_;refine⟨rfl,Gh.only 68 10 ?_ (by first|rfl|simp -implicitDefEqProofs[H]) (by rfl)⟩
   simp -implicitDefEqProofs[H,g62']
  have g62':=zN g62;replace H:=And.intro g62 H;refine zO 6 ?_;refine WpO.nil ?_;refine⟨rfl,Gh.only 68 10 ?_ (by first|rfl|simp -implicitDefEqProofs[H]) (by rfl)⟩
  simp -implicitDefEqProofs[H,g62']
 refine zC (λc68=>?_) (λc68=>?_)
 ·have c68':=zN c68;have hq1:q<=9223372036854775807:=by have:=c68'.1;omega
  have hQ1:Q=q+1:=by rw[hQ,c68'.2];simp[hq1]
  have hwQ:IntKind.u64.wrap ((q:Int)+1)=(Q:Int):=by rw[hwq,if_neg (by omega),hQ1]
  replace H:=And.intro c68 (And.intro hwQ H);refine zr ?_;refine WpC.seq ?_;refine zR ?_;refine zC (λc72=>?_) (λc72=>?_)
  ·have c72':=zN c72;have hokF:ok=false:=by
    have:(9223372036854775807:Int)<Q:=by simpa using c72
    rw[hok1,decide_eq_false (by omega)];simp
   replace H:=And.intro c72 H;refine zR ?_;refine WpC.ret ?_;try simp only[aa,aj]
   refine zE ?_;simp[hokF,hR0 hokF]
  have c72':=zN c72;have hQm:¬(9223372036854775807:Int)<Q:=by simpa using c72
  have hokT:ok=true:=by rw[hok1,hab.1,hab.2,decide_eq_true (by omega)];rfl
  have hwi:IntKind.i64.wrap (Q:Int)=Q:=am (by omega) (by omega)
  have hwn:IntKind.i64.wrap (-(Q:Int))= -(Q:Int):=am (by omega) (by omega)
  have hRT:=hR1 hokT;replace H:=And.intro c72 (And.intro hwi (And.intro hwn H));refine WpC.skip ?_;refine zR ?_;refine WpC.seq ?_;refine zR ?_;refine zC (λc82=>?_) (λc82=>?_)
  ·have c82':=zN c82;have hs1:sg=true:=by rw[<-hsg];revert c82;cases decide (a<0)<;>cases decide (b<0)<;>simp
   rw[if_pos hs1] at hRT;replace H:=And.intro c82 H;refine zr ?_;refine zR ?_;refine WpC.ret ?_;try simp only[aa,aj]
   refine zE ?_;simp[hokT,hRT]
  have c82':=zN c82;have hs1:¬sg=true:=by rw[<-hsg];revert c82;cases decide (a<0)<;>cases decide (b<0)<;>simp
  rw[if_neg hs1] at hRT;replace H:=And.intro c82 H;refine WpC.skip ?_;refine zR ?_;refine WpC.ret ?_;try simp only[aa,aj]
  refine zE ?_;simp[hokT,hRT]
 have c68':=zN c68;have hQ0:Q=q:=by
  rw[hQ,if_neg (λe=>by
   simp only[Bool.and_eq_true,decide_eq_true_eq] at e;have:=c68' (by omega)
   rw[this] at e;simp at e)];rfl
 have hwQ:(q:Int)=(Q:Int):=by rw[hQ0]
 replace H:=And.intro c68 (And.intro hwQ H);refine WpC.skip ?_;refine WpC.seq ?_;refine zR ?_;refine zC (λc72=>?_) (λc72=>?_)
 ·have c72':=zN c72;have hokF:ok=false:=by
   have:(9223372036854775807:Int)<Q:=by simpa using c72
   rw[hok1,decide_eq_false (by omega)];simp
  replace H:=And.intro c72 H;refine zR ?_;refine WpC.ret ?_;try simp only[aa,aj]
  refine zE ?_;simp[hokF,hR0 hokF]
 have c72':=zN c72;have hQm:¬(9223372036854775807:Int)<Q:=by simpa using c72
 have hokT:ok=true:=by rw[hok1,hab.1,hab.2,decide_eq_true (by omega)];rfl
 have hwi:IntKind.i64.wrap (Q:Int)=Q:=am (by omega) (by omega)
 have hwn:IntKind.i64.wrap (-(Q:Int))= -(Q:Int):=am (by omega) (by omega)
 have hRT:=hR1 hokT;replace H:=And.intro c72 (And.intro hwi (And.intro hwn H));refine WpC.skip ?_;refine zR ?_;refine WpC.seq ?_;refine zR ?_;refine zC (λc82=>?_) (λc82=>?_)
 ·have c82':=zN c82;have hs1:sg=true:=by rw[<-hsg];revert c82;cases decide (a<0)<;>cases decide (b<0)<;>simp
  rw[if_pos hs1] at hRT;replace H:=And.intro c82 H;refine zr ?_;refine zR ?_;refine WpC.ret ?_;try simp only[aa,aj]
  refine zE ?_;simp[hokT,hRT]
 have c82':=zN c82;have hs1:¬sg=true:=by rw[<-hsg];revert c82;cases decide (a<0)<;>cases decide (b<0)<;>simp
 rw[if_neg hs1] at hRT;replace H:=And.intro c82 H;refine WpC.skip ?_;refine zR ?_;refine WpC.ret ?_;try simp only[aa,aj]
 refine zE ?_;simp[hokT,hRT]
def kJ (a b:Ce):Ce:=
 let w:Nat×Int:=if a.kind=2\/b.kind=2 then(10000,3) else(1,0)
 ⟨if a.kind≠3\/b.kind≠3 then 1 else 3,wmR a.n b.n w.1 w.2,!oi a.n b.n w.1 w.2⟩
theorem ww (a b:Ce) (ha:aC a.n) (hb:aC b.n):ah Tryz.prog 168 [.d a.enc,.d b.enc] (.d (kJ a b).enc):=by
 have h1:=vr a.n b.n 1 0 ha hb (by decide) (by decide) (.inl rfl)
 have h2:=vr a.n b.n 10000 3 ha hb (by decide) (by decide) (.inr rfl)
 obtain⟨o1,ho1⟩:∃v,oi a.n b.n 1 0=v:=⟨_,rfl⟩
 obtain⟨o2,ho2⟩:∃v,oi a.n b.n 10000 3=v:=⟨_,rfl⟩
 obtain⟨v1,hv1⟩:∃v,wmR a.n b.n 1 0=v:=⟨_,rfl⟩
 obtain⟨v2,hv2⟩:∃v,wmR a.n b.n 10000 3=v:=⟨_,rfl⟩
 rw[ho1,hv1] at h1;rw[ho2,hv2] at h2;have hpT:(a.kind=2\/b.kind=2)->kJ a b=⟨if a.kind≠3\/b.kind≠3 then 1 else 3,v2,!o2⟩:=λh=>by rw[kJ,if_pos h];simp only[ho2,hv2]
 have hpF:¬(a.kind=2\/b.kind=2)->kJ a b=⟨if a.kind≠3\/b.kind≠3 then 1 else 3,v1,!o1⟩:=λh=>by rw[kJ,if_neg h];simp only[ho1,hv1]
 obtain⟨p,hp⟩:∃p,kJ a b=p:=⟨_,rfl⟩
 rw[hp] at hpT hpF ⊢;refine ah.enter tabOk Tryz.func168 rfl (by show 2<=41;decide) ?_
 simp only[Tryz.f168];have H:=trivial;iterate 2 refine zR ?_
 refine WpC.seq ?_;refine WpC.seq ?_;refine WpC.val 17 (.d (.bool ((decide (a.kind=2)||decide (b.kind=2))))) ?_ ?_
 ·refine WpC.region ?_;refine zO 4 ?_;refine zS 13 (λg13=>?_) (λg13=>?_)
  ·have g13':=zN g13;replace H:=And.intro g13 H;refine zO 4 ?_;refine WpO.nil ?_;refine⟨rfl,Gh.only 17 9 ?_ (by first|rfl|simp -implicitDefEqProofs[H]) (by rfl)⟩
   simp -implicitDefEqProofs[H,g13']
  have g13':=zN g13;replace H:=And.intro g13 H;refine zO 4 ?_;refine WpO.nil ?_;refine⟨rfl,Gh.only 17 9 ?_ (by first|rfl|simp -implicitDefEqProofs[H]) (by rfl)⟩
  simp -implicitDefEqProofs[H,g13']
 refine zC (λc17=>?_) (λc17=>?_)
 ·have c17':=zN c17;have hc:=h2;have hpp:=hpT (by simpa using c17)
  clear h1 h2;replace H:=And.intro c17 H;refine zr ?_;refine WpC.seq ?_;refine WpC.region ?_;refine zO 6 ?_;refine zG lq (hc) ?_;refine zO 5 ?_;refine WpO.nil ?_;refine zR ?_;refine WpC.seq ?_;refine WpC.seq ?_;refine WpC.val 35 (.d (.bool ((!decide (a.kind=3)||!decide (b.kind=3))))) ?_ ?_
  ·refine WpC.region ?_;refine zO 4 ?_;refine zS 31 (λg31=>?_) (λg31=>?_)
   ·have g31':=zN g31;replace H:=And.intro g31 H;refine zO 4 ?_;refine WpO.nil ?_;refine⟨rfl,Gh.only 35 9 ?_ (by first|rfl|simp -implicitDefEqProofs[H]) (by rfl)⟩
    simp -implicitDefEqProofs[H,g31']
   have g31':=zN g31;replace H:=And.intro g31 H;refine zO 4 ?_;refine WpO.nil ?_;refine⟨rfl,Gh.only 35 9 ?_ (by first|rfl|simp -implicitDefEqProofs[H]) (by rfl)⟩
   simp -implicitDefEqProofs[H,g31']
  refine zC (λc35=>?_) (λc35=>?_)
  ·have c35':=zN c35;rw[if_pos (by simpa using c35)] at hpp
   replace H:=And.intro c35 H;refine zr ?_;refine zR ?_;refine WpC.ret ?_;try simp only[aa,aj]
   refine zE ?_;subst hpp;first|(cases o1<;>simp;done)|(cases o2<;>simp;done)
  have c35':=zN c35;rw[if_neg (by simp at c35;omega)] at hpp
  replace H:=And.intro c35 H;refine WpC.skip ?_;refine zR ?_;refine WpC.ret ?_;try simp only[aa,aj]
  refine zE ?_;subst hpp;first|(cases o1<;>simp;done)|(cases o2<;>simp;done)
 have c17':=zN c17;have hc:=h1;have hpp:=hpF (by simp at c17;omega)
 clear h1 h2;replace H:=And.intro c17 H;refine WpC.skip ?_;refine WpC.seq ?_;refine WpC.region ?_;refine zO 6 ?_;refine zG lq (hc) ?_;refine zO 5 ?_;refine WpO.nil ?_;refine zR ?_;refine WpC.seq ?_;refine WpC.seq ?_;refine WpC.val 35 (.d (.bool ((!decide (a.kind=3)||!decide (b.kind=3))))) ?_ ?_
 ·refine WpC.region ?_;refine zO 4 ?_;refine zS 31 (λg31=>?_) (λg31=>?_)
  ·have g31':=zN g31;replace H:=And.intro g31 H;refine zO 4 ?_;refine WpO.nil ?_;refine⟨rfl,Gh.only 35 9 ?_ (by first|rfl|simp -implicitDefEqProofs[H]) (by rfl)⟩
   simp -implicitDefEqProofs[H,g31']
  have g31':=zN g31;replace H:=And.intro g31 H;refine zO 4 ?_;refine WpO.nil ?_;refine⟨rfl,Gh.only 35 9 ?_ (by first|rfl|simp -implicitDefEqProofs[H]) (by rfl)⟩
  simp -implicitDefEqProofs[H,g31']
 refine zC (λc35=>?_) (λc35=>?_)
 ·have c35':=zN c35;rw[if_pos (by simpa using c35)] at hpp
  replace H:=And.intro c35 H;refine zr ?_;refine zR ?_;refine WpC.ret ?_;try simp only[aa,aj]
  refine zE ?_;subst hpp;first|(cases o1<;>simp;done)|(cases o2<;>simp;done)
 have c35':=zN c35;rw[if_neg (by simp at c35;omega)] at hpp
 replace H:=And.intro c35 H;refine WpC.skip ?_;refine zR ?_;refine WpC.ret ?_;try simp only[aa,aj]
 refine zE ?_;subst hpp;first|(cases o1<;>simp;done)|(cases o2<;>simp;done)
end Go.Proofs.YtlhmejigmokbhaaGreatDoor.Pay
