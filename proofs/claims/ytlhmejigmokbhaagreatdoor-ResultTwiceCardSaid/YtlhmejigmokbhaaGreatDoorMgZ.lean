/- The texts LxB, LxC, TrA, one behind the other. No statement of the seed is proved here. -/
import Derived.Test.YtlhmejigmokbhaaGreatDoorMgM
import Derived.Test.YtlhmejigmokbhaaGreatDoorMgY
namespace Go.Proofs.YtlhmejigmokbhaaGreatDoor.Pay
open Go Go.RowKit
set_option linter.unusedVariables false
set_option linter.unusedSimpArgs false
def e_ (c:UInt8):Bool:=decide ((97:Int)<=c.toNat)&&decide ((c.toNat:Int)<=122)
def du (c:UInt8):Bool:=decide ((48:Int)<=c.toNat)&&decide ((c.toNat:Int)<=57)
def ga (c:UInt8):Bool:=e_ c||du c
def gY (c:UInt8):Bool:=du c||decide ((c.toNat:Int)=46)||decide ((c.toNat:Int)=37)
def oS (c:UInt8):Bool:=!decide ((c.toNat:Int)=10)
theorem mj (c:UInt8):ah Tryz.prog 55 [.d (.int .u8 c.toNat)] (.d (.bool (e_ c))):=by
 refine ah.enter tabOk Tryz.func55 rfl (by show 1<=9;decide) ?_
 simp only[Tryz.f55];have H:=trivial;refine zR ?_;refine WpC.seq ?_;refine WpC.val 2 (.d (.bool (e_ c))) ?_ ?_
 ·refine WpC.region ?_;refine zO 3 ?_;refine zS 5 (λg5=>?_) (λg5=>?_)
  ·have g5':=zN g5;replace H:=And.intro g5 H;refine zO 4 ?_;refine WpO.nil ?_;refine⟨rfl,Gh.only 2 8 ?_ (by first|rfl|simp -implicitDefEqProofs[H]) (by rfl)⟩
   simp -implicitDefEqProofs[H,g5',e_]
  have g5':=zN g5;replace H:=And.intro g5 H;refine zO 4 ?_;refine WpO.nil ?_;refine⟨rfl,Gh.only 2 8 ?_ (by first|rfl|simp -implicitDefEqProofs[H]) (by rfl)⟩
  simp -implicitDefEqProofs[H,g5',e_]
 refine WpC.ret ?_;try simp only[aa,aj]
 refine zE ?_;simp -implicitDefEqProofs[H]
theorem iv (c:UInt8):ah Tryz.prog 57 [.d (.int .u8 c.toNat)] (.d (.bool (du c))):=by
 refine ah.enter tabOk Tryz.func57 rfl (by show 1<=9;decide) ?_
 simp only[Tryz.f57];have H:=trivial;refine zR ?_;refine WpC.seq ?_;refine WpC.val 2 (.d (.bool (du c))) ?_ ?_
 ·refine WpC.region ?_;refine zO 3 ?_;refine zS 5 (λg5=>?_) (λg5=>?_)
  ·have g5':=zN g5;replace H:=And.intro g5 H;refine zO 4 ?_;refine WpO.nil ?_;refine⟨rfl,Gh.only 2 8 ?_ (by first|rfl|simp -implicitDefEqProofs[H]) (by rfl)⟩
   simp -implicitDefEqProofs[H,g5',du]
  have g5':=zN g5;replace H:=And.intro g5 H;refine zO 4 ?_;refine WpO.nil ?_;refine⟨rfl,Gh.only 2 8 ?_ (by first|rfl|simp -implicitDefEqProofs[H]) (by rfl)⟩
  simp -implicitDefEqProofs[H,g5',du]
 refine WpC.ret ?_;try simp only[aa,aj]
 refine zE ?_;simp -implicitDefEqProofs[H]
theorem vq (c:UInt8):ah Tryz.prog 56 [.d (.int .u8 c.toNat)] (.d (.bool (ga c))):=by
 refine ah.enter tabOk Tryz.func56 rfl (by show 1<=9;decide) ?_
 simp only[Tryz.f56];have H:=trivial;refine zR ?_;refine WpC.seq ?_;refine WpC.val 2 (.d (.bool (ga c))) ?_ ?_
 ·refine WpC.region ?_;refine zO 1 ?_;refine zG lw (mj c) ?_;refine zO 1 ?_;refine zS 5 (λg5=>?_) (λg5=>?_)
  ·have g5':=zN g5;replace H:=And.intro g5 H;refine zO 4 ?_;refine WpO.nil ?_;refine⟨rfl,Gh.only 2 8 ?_ (by first|rfl|simp -implicitDefEqProofs[H]) (by rfl)⟩
   simp -implicitDefEqProofs[H,g5',ga]
  have g5':=zN g5;replace H:=And.intro g5 H;refine zO 1 ?_;refine zG jJ (iv c) ?_;refine zO 2 ?_;refine WpO.nil ?_;refine⟨rfl,Gh.only 2 8 ?_ (by first|rfl|simp -implicitDefEqProofs[H]) (by rfl)⟩
  simp -implicitDefEqProofs[H,g5',ga]
 refine WpC.ret ?_;try simp only[aa,aj]
 refine zE ?_;simp -implicitDefEqProofs[H]
theorem BG (c:UInt8):ah Tryz.prog 58 [.d (.int .u8 c.toNat)] (.d (.bool (gY c))):=by
 refine ah.enter tabOk Tryz.func58 rfl (by show 1<=13;decide) ?_
 simp only[Tryz.f58];have H:=trivial;refine zR ?_;refine WpC.seq ?_;refine WpC.val 2 (.d (.bool (gY c))) ?_ ?_
 ·refine WpC.region ?_;refine zO 1 ?_;refine zG jJ (iv c) ?_;refine zO 1 ?_;refine zS 5 (λg5=>?_) (λg5=>?_)
  ·have g5':=zN g5;replace H:=And.intro g5 H;refine zO 8 ?_;refine WpO.nil ?_;refine⟨rfl,Gh.only 2 12 ?_ (by first|rfl|simp -implicitDefEqProofs[H]) (by rfl)⟩
   simp -implicitDefEqProofs[H,g5',gY]
  have g5':=zN g5;replace H:=And.intro g5 H;refine zO 4 ?_;refine zS 9 (λg9=>?_) (λg9=>?_)
  ·have g9':=zN g9;replace H:=And.intro g9 H;refine zO 4 ?_;refine WpO.nil ?_;refine⟨rfl,Gh.only 2 13 ?_ (by first|rfl|simp -implicitDefEqProofs[H]) (by rfl)⟩
   simp -implicitDefEqProofs[H,g5',g9',gY]
  have g9':=zN g9;replace H:=And.intro g9 H;refine zO 4 ?_;refine WpO.nil ?_;refine⟨rfl,Gh.only 2 13 ?_ (by first|rfl|simp -implicitDefEqProofs[H]) (by rfl)⟩
  simp -implicitDefEqProofs[H,g5',g9',gY]
 refine WpC.ret ?_;try simp only[aa,aj]
 refine zE ?_;simp -implicitDefEqProofs[H]
theorem Bo (c:UInt8):ah Tryz.prog 31 [.d (.int .u8 c.toNat)] (.d (.bool (oS c))):=by
 refine ah.enter tabOk Tryz.func31 rfl (by show 1<=5;decide) ?_
 simp only[Tryz.f31];have H:=trivial;iterate 2 refine zR ?_
 refine WpC.ret ?_;try simp only[aa,aj]
 refine zE ?_;simp[oS]
def cN (p:UInt8->Bool) (l:List UInt8):Nat:=(l.takeWhile p).length
theorem jf (p:UInt8->Bool) (l:List UInt8):cN p l<=l.length:=(List.takeWhile_prefix p).length_le
theorem pU {p:UInt8->Bool} {s:List UInt8} {x:Nat} {c:UInt8} (h:s[x]?=some c) (hp:p c=true):cN p (s.drop x)=cN p (s.drop (x+1))+1:=by
 obtain⟨hx,rfl⟩:=List.getElem?_eq_some_iff.1 h;rw[List.drop_eq_getElem_cons hx,cN,List.takeWhile_cons_of_pos hp];rfl
theorem AU {p:UInt8->Bool} {s:List UInt8} {x:Nat} {c:UInt8} (h:s[x]?=some c) (hp:p c=false):cN p (s.drop x)=0:=by
 obtain⟨hx,rfl⟩:=List.getElem?_eq_some_iff.1 h;rw[List.drop_eq_getElem_cons hx,cN,List.takeWhile_cons_of_neg (by simp[hp])];rfl
theorem wj {p:UInt8->Bool} {s:List UInt8} {x:Nat} (h:s.length<=x):cN p (s.drop x)=0:=by
 rw[List.drop_of_length_le h];rfl
theorem lZ {p:UInt8->Bool} {c:UInt8} {r:List UInt8} (hp:p c=true):1<=cN p (c::r):=by
 rw[cN,List.takeWhile_cons_of_pos hp];simp
theorem oE (g:FuncId) (hcal:af Tryz.prog g) (p:UInt8->Bool) (hg:∀c:UInt8,ah Tryz.prog g [.d (.int .u8 c.toNat)] (.d (.bool (p c)))) (s:List UInt8) (a:Nat) (h:s.length<=500000000) (ha:a<=s.length):
 ah Tryz.prog 30 [.d (.str s),.d (dI a),.fn g []] (.d (dI (cN p (s.drop a)))):=by
 refine ah.enter tabOk Tryz.func30 rfl (by show 3<=25;decide) ?_
 simp only[Tryz.f30];have H:=trivial;iterate 2 refine zR ?_
 refine WpC.seq ?_;refine WpC.block ?_;refine WpC.loopM [0,1,2] [7] (λx=>s.length-x) (a:Nat) (λx=>[(7,.d (dI x))]) (λx=>[]) (λx=>a<=x/\x<=s.length/\cN p (s.drop a)=(x-a)+cN p (s.drop x)) (by simp -implicitDefEqProofs[H]<;>rfl) (Gh.cut' [7,0,1,2] 0 (by simp -implicitDefEqProofs[H]) (by simp -implicitDefEqProofs[H]) rfl (by simp) (by simp) (by simp)) (⟨Nat.le_refl _,ha,by simp⟩) ?_
 rintro x hi;simp only[List.cons_append,List.nil_append];obtain⟨i1,i2,i3⟩:=hi;refine WpC.seq ?_;refine WpC.seq ?_;refine WpC.region ?_;refine zO 5 ?_;refine zS 13 (λg13=>?_) (λg13=>?_)
 ·have g13':=zN g13;have hxl:x<s.length:=by omega
  obtain⟨c,hc⟩:∃c,s[x]?=some c:=⟨s[x],List.getElem?_eq_getElem hxl⟩
  have hcg:s[x]=c:=by rw[List.getElem?_eq_getElem hxl] at hc;exact Option.some.inj hc
  have hck:=hg c;have hw1:IntKind.i64.wrap ((x:Int)+1)=x+1:=am (by omega) (by omega)
  replace H:=And.intro g13 (And.intro hxl (And.intro hc (And.intro hcg (And.intro hw1 H))));refine zO 4 ?_;refine zG hcal (hck) ?_;refine zO 1 ?_;refine WpO.nil ?_;refine zC (λc19=>?_) (λc19=>?_)
  ·have c19':=zN c19;have hy:=pU hc (show p c=true by simpa using c19)
   replace H:=And.intro c19 H;refine WpC.skip ?_;refine WpC.block ?_;refine zr ?_;exact⟨x+1,⟨by omega,by omega,by rw[i3,hy];omega⟩,by omega,Gh.cut' [7,0,1,2] 0 (by simp -implicitDefEqProofs[H,g13',c19']) (by simp) rfl (by simp) (by simp) (by simp)⟩
  have c19':=zN c19;have hz:=AU hc (show p c=false by simpa using c19)
  have hw:IntKind.i64.wrap ((x:Int)-a)=(cN p (s.drop a):Nat):=by rw[am (by omega) (by omega)];omega
  replace H:=And.intro c19 (And.intro hw H);refine WpC.exit ?_;refine zR ?_;refine WpC.ret ?_;try simp only[aa,aj]
  refine zE ?_;simp -implicitDefEqProofs[H]
 have g13':=zN g13;have hz:=wj (p:=p) (s:=s) (x:=x) (by omega)
 have hw:IntKind.i64.wrap ((x:Int)-a)=(cN p (s.drop a):Nat):=by rw[am (by omega) (by omega)];omega
 replace H:=And.intro g13 (And.intro hw H);refine zO 6 ?_;refine WpO.nil ?_;refine zF ?_;refine WpC.exit ?_;refine zR ?_;refine WpC.ret ?_;try simp only[aa,aj]
 refine zE ?_;simp -implicitDefEqProofs[H]
def yN (s:List UInt8):Bool:=decide ((s.length:Int)<=9)&&decide (((cN du s:Nat):Int)=s.length)&&((s==[48])||!decide (((s.headD 0).toNat:Int)=48))
def rU (s:List UInt8):Int:=if (iM s).2=true then 3 else if (m7 s).2=true then 4 else if yN s=true then 2 else 0
theorem BF (s:List UInt8) (h:s.length<=500000000) (h1:1<=s.length):ah Tryz.prog 59 [.d (.str s)] (.d (dI (rU s))):=by
 have hp:=oK s h;have hq:=sQ s h;have hr:=oE 57 jJ du iv s 0 h (by omega)
 rw[List.drop_zero] at hr;obtain⟨c,hc⟩:∃c,s[0]?=some c:=⟨s[0],List.getElem?_eq_getElem (by omega)⟩
 have hcd:s.headD 0=c:=by
  cases s with
  |nil=>simp at hc
  |cons x r=>simpa using hc
 have hwl:yN s=(decide ((s.length:Int)<=9)&&decide (((cN du s:Nat):Int)=s.length)&&((s==[48])||!decide ((c.toNat:Int)=48))):=by rw[yN,hcd]
 obtain⟨k,hk⟩:∃k,cN du s=k:=⟨_,rfl⟩
 obtain⟨b,hb⟩:∃b,(s==[48])=b:=⟨_,rfl⟩
 rw[hk,hb] at hwl;rw[hk] at hr;have hne:0<s.length:=by omega
 refine ah.enter tabOk Tryz.func59 rfl (by show 1<=38;decide) ?_
 simp only[Tryz.f59];have H:=And.intro hc hb;refine zR ?_;refine WpC.seq ?_;refine WpC.seq ?_;refine WpC.region ?_;refine zO 1 ?_;refine zG iw (hp) ?_;refine zO 5 ?_;refine WpO.nil ?_;refine zR ?_;refine zC (λc12=>?_) (λc12=>?_)
 ·have c12':=zN c12;replace H:=And.intro c12 H;refine zR ?_;refine WpC.ret ?_;try simp only[aa,aj]
  refine zE ?_;simp[rU,c12']
 have c12':=zN c12;replace H:=And.intro c12 H;refine WpC.skip ?_;refine WpC.seq ?_;refine WpC.seq ?_;refine WpC.region ?_;refine zO 1 ?_;refine zG tJ (hq) ?_;refine zO 5 ?_;refine WpO.nil ?_;refine zR ?_;refine zC (λc18=>?_) (λc18=>?_)
 ·have c18':=zN c18;replace H:=And.intro c18 H;refine zR ?_;refine WpC.ret ?_;try simp only[aa,aj]
  refine zE ?_;simp[rU,c12',c18']
 have c18':=zN c18;replace H:=And.intro c18 H;refine WpC.skip ?_;refine WpC.seq ?_;refine WpC.seq ?_;refine WpC.val 37 (.d (.bool (yN s))) ?_ ?_
 ·refine WpC.region ?_;refine zO 4 ?_;refine zS 22 (λg22=>?_) (λg22=>?_)
  ·try(exfalso;revert g22;simp;done)
   all_goals
    have g22':=zN g22;replace H:=And.intro g22 H;refine zO 1 ?_;refine zG lA (hr) ?_;refine zO 5 ?_;refine zS 29 (λg29=>?_) (λg29=>?_)
    ·try(exfalso;revert g29;simp;done)
     all_goals
      have g29':=zN g29;replace H:=And.intro g29 H;refine zO 3 ?_;refine zS 32 (λg32=>?_) (λg32=>?_)
      ·try(exfalso;revert g32;simp;done)
       all_goals
        have g32':=zN g32;replace H:=And.intro g32 H;refine zO 5 ?_;refine WpO.nil ?_;refine⟨rfl,Gh.only 37 22 ?_ (by first|rfl|simp -implicitDefEqProofs[H]) (by rfl)⟩
        simp -implicitDefEqProofs[H,g22',g29',g32',hwl]
      ·try(exfalso;revert g32;simp;done)
       all_goals
        have g32':=zN g32;replace H:=And.intro g32 H;refine zO 5 ?_;refine WpO.nil ?_;refine⟨rfl,Gh.only 37 22 ?_ (by first|rfl|simp -implicitDefEqProofs[H]) (by rfl)⟩
        simp -implicitDefEqProofs[H,g22',g29',g32',hwl]
    ·try(exfalso;revert g29;simp;done)
     all_goals
      have g29':=zN g29;replace H:=And.intro g29 H;refine zO 8 ?_;refine WpO.nil ?_;refine⟨rfl,Gh.only 37 21 ?_ (by first|rfl|simp -implicitDefEqProofs[H]) (by rfl)⟩
      simp -implicitDefEqProofs[H,g22',g29',hwl]
  ·try(exfalso;revert g22;simp;done)
   all_goals
    have g22':=zN g22;replace H:=And.intro g22 H;refine zO 12 ?_;refine zO 3 ?_;refine WpO.nil ?_;refine⟨rfl,Gh.only 37 20 ?_ (by first|rfl|simp -implicitDefEqProofs[H]) (by rfl)⟩
    simp -implicitDefEqProofs[H,g22',hwl]
 refine zC (λc37=>?_) (λc37=>?_)
 ·have c37':=zN c37;replace H:=And.intro c37 H;refine zR ?_;refine WpC.ret ?_;try simp only[aa,aj]
  refine zE ?_;simp[rU,c12',c18',c37']
 have c37':=zN c37;replace H:=And.intro c37 H;refine WpC.skip ?_;refine zR ?_;refine WpC.ret ?_;try simp only[aa,aj]
 refine zE ?_;simp[rU,c12',c18',c37']
def m5:List (List UInt8):=[[60,61],[62,61],[60,62]]
def AP:List UInt8:=[61,60,62,43,45,42,40,41,44,59]
def gI (s:List UInt8):Int:=if m5.any (Lib.hasPrefix s)=true then 2 else if 0<=Lib.indexByte AP (s.headD 0) then 1 else 0
theorem AO (s:List UInt8) (h1:1<=s.length):ah Tryz.prog 60 [.d (.str s)] (.d (dI (gI s))):=by
 obtain⟨c,hc⟩:∃c,s[0]?=some c:=⟨s[0],List.getElem?_eq_getElem (by omega)⟩
 have hcd:s.headD 0=c:=by
  cases s with
  |nil=>simp at hc
  |cons x r=>simpa using hc
 have hix:ah Tryz.prog 88 [.d (.str [61,60,62,43,45,42,40,41,44,59]),.d (.int .u8 c.toNat)] (.d (dI (Lib.indexByte AP c))):=o5 AP c;obtain⟨j,hj⟩:∃j,Lib.indexByte AP c=j:=⟨_,rfl⟩
 rw[hj] at hix;refine ah.enter tabOk Tryz.func60 rfl (by show 1<=21;decide) ?_
 simp only[Tryz.f60];have H:=hc;refine zR ?_;refine WpC.seq ?_;refine zR ?_;refine WpC.block ?_;refine WpC.loopK [0,5,6] [7] (3) (():Unit) (λk _=>[(7,.d (.int .i64 k))]) (λk _=>[.arr 9 1 [.str [60,61],.str [62,61],.str [60,62]]]) (λk _=>(m5.take k).any (Lib.hasPrefix s)=false) (by simp -implicitDefEqProofs[H]<;>rfl) (Gh.cut' [7,0,5,6] 1 (by simp -implicitDefEqProofs[H]) (by simp -implicitDefEqProofs[H]) rfl (by simp) (by simp) (by simp)) (rfl) ?_
 rintro k ⟨⟩ hk hi;simp only[List.cons_append,List.nil_append];refine zR ?_;refine WpC.seq (zL (k<3) (λhlt=>?_) (λhge=>?_))
 ·refine WpC.skip ?_;have hkl:k<m5.length:=hlt;obtain⟨u,hu⟩:∃u,m5[k]=u:=⟨_,rfl⟩
  have hul:u.length=2:=by
   have:∀v∈m5,v.length=2:=by decide
   exact this u (hu▸List.getElem_mem hkl)
  have hum:u∈m5:=hu▸List.getElem_mem hkl;have hst:=cf (Lib.hasPrefix s) hkl;rw[hi,hu,Bool.false_or] at hst;have hug:([D.str [60,61],.str [62,61],.str [60,62]]:List D)[k]'hlt= .str u:=by
   have e:(m5.map D.str)[k]'(by simpa using hkl)= .str u:=by rw[List.getElem_map,hu]
   exact e
  have hw:IntKind.i64.wrap ((k:Int)+1)=k+1:=am (by omega) (by omega)
  have hpx:=o6 s u;replace H:=And.intro hlt (And.intro hug (And.intro hw (And.intro hul H)));refine WpC.seq ?_;refine WpC.block ?_;refine zR ?_;refine WpC.seq ?_;refine WpC.region ?_;refine zO 2 ?_;refine zG Ca (hpx) ?_;refine WpO.nil ?_;refine zC (λc13=>?_) (λc13=>?_)
  ·have c13':=zN c13;replace H:=And.intro c13 H;refine zR ?_;refine WpC.ret ?_;try simp only[aa,aj]
   refine zE ?_;have:gI s=2:=by
    unfold gI;rw[if_pos (List.any_eq_true.2 ⟨u,hum,by simpa using c13⟩)]
   simp[this,hul]
  have c13':=zN c13;replace H:=And.intro c13 H;refine WpC.skip ?_;refine zr ?_;exact⟨hlt,(),by rw[hst];simpa using c13,Gh.cut' [7,0,5,6] 1 (by simp -implicitDefEqProofs[H,c13']) (by simp -implicitDefEqProofs[H,c13']) rfl (by simp) (by simp) (by simp)⟩
 refine WpC.exit ?_;have hkn:k=3:=by omega
 subst hkn;refine WpC.seq ?_;refine WpC.seq ?_;refine WpC.region ?_;refine zO 2 ?_;refine zG B_ (hix) ?_;refine zO 1 ?_;refine WpO.nil ?_;refine zD (0<=j) (λd20=>?_) (λd20=>?_)
 ·replace H:=And.intro d20 H;refine zR ?_;refine WpC.ret ?_;try simp only[aa,aj]
  refine zE ?_;have:gI s=1:=by
   unfold gI;rw[if_neg (by rw[show m5.any (Lib.hasPrefix s)=false from hi];simp),hcd,hj,if_pos d20]
  simp[this]
 replace H:=And.intro d20 H;refine WpC.skip ?_;refine zR ?_;refine WpC.ret ?_;try simp only[aa,aj]
 refine zE ?_;have:gI s=0:=by
  unfold gI;rw[if_neg (by rw[show m5.any (Lib.hasPrefix s)=false from hi];simp),hcd,hj,if_neg d20]
 simp[this]
def js (l:List UInt8):Int×Nat:=
 if e_ (l.headD 0)=true then(if 12<cN ga l then(0,0) else(1,cN ga l))
 else if du (l.headD 0)=true then(rU (l.take (cN gY l)),cN gY l)
 else if gI l=0 then(0,0) else(5,(gI l).toNat)
theorem sK (s:List UInt8):gI s=0\/gI s=1\/gI s=2:=by
 unfold gI;split
 ·simp
 ·split<;>simp
theorem Be (s:List UInt8) (a:Nat) (h:s.length<=500000000) (ha:a<s.length):ah Tryz.prog 32 [.d (.str s),.d (dI a)] (.tup [.d (dI (js (s.drop a)).1),.d (dI (js (s.drop a)).2)]):=by
 obtain⟨c,hc⟩:∃c,s[a]?=some c:=⟨s[a],List.getElem?_eq_getElem ha⟩
 have hcd:(s.drop a).headD 0=c:=by
  obtain⟨hx,e⟩:=List.getElem?_eq_some_iff.1 hc;rw[List.drop_eq_getElem_cons hx];exact e
 have h1:=mj c;have h2:=iv c;have r1:=oE 56 Cu ga vq s a h (by omega)
 have r2:=oE 58 Ct gY BG s a h (by omega)
 have hl1:=jf ga (s.drop a);have hl2:=jf gY (s.drop a);have hdl:(s.drop a).length=s.length-a:=List.length_drop;have hal:a<=s.length:=by omega
 have hf:1<=cN gY (s.drop a)->ah Tryz.prog 59 [.d (.str ((s.drop a).take (cN gY (s.drop a))))] (.d (dI (rU ((s.drop a).take (cN gY (s.drop a)))))):=λhp=>
  BF _ (by rw[List.length_take];omega) (by rw[List.length_take];omega)
 have hpos:du c=true->1<=cN gY (s.drop a):=λhd=>by
  rw[pU hc (by simp[gY,hd])];omega
 have hs:=AO (s.drop a) (by omega)
 have hdt:(s.drop a).take (s.length-a)=s.drop a:=List.take_of_length_le (by omega)
 have hsi:=sK (s.drop a);unfold js;rw[hcd];obtain⟨l,hl⟩:∃l,s.drop a=l:=⟨_,rfl⟩
 obtain⟨n1,e1⟩:∃n,cN ga (s.drop a)=n:=⟨_,rfl⟩
 obtain⟨n2,e2⟩:∃n,cN gY (s.drop a)=n:=⟨_,rfl⟩
 obtain⟨n3,e3⟩:∃n,gI (s.drop a)=n:=⟨_,rfl⟩
 rw[e1] at r1 hl1 ⊢;rw[e2] at r2 hl2 hf hpos ⊢;rw[e3] at hs hsi ⊢;rw[hl] at hf hs hdt ⊢;have w1:IntKind.i64.wrap ((a:Int)+n2)=((a+n2:Nat):Int):=by rw[am (by omega) (by omega)];omega
 obtain⟨e,he⟩:∃e,a+n2=e:=⟨_,rfl⟩
 rw[he] at w1;have w2:e-a=n2:=by omega
 have w3:e<=s.length:=by omega
 have w4:a<=e:=by omega
 cases hlt:e_ c with
 |true=>
  rw[hlt] at h1;rw[if_pos rfl];refine ah.enter tabOk Tryz.func32 rfl (by show 2<=43;decide) ?_
  simp only[Tryz.f32];have H:=hc;refine zR ?_;refine WpC.seq ?_;refine zR ?_;refine WpC.block ?_;refine WpC.seq ?_;refine WpC.region ?_;refine zO 1 ?_;refine zG lw (h1) ?_;refine zO 1 ?_;refine WpO.nil ?_;refine zT ?_;refine WpC.seq ?_;refine WpC.region ?_;refine zO 2 ?_;refine zG lA (r1) ?_;refine zO 1 ?_;refine WpO.nil ?_;refine WpC.seq ?_;refine zR ?_;refine zD ((12:Int)<n1) (λd20=>?_) (λd20=>?_)
  ·replace H:=And.intro d20 H;refine zR ?_;refine WpC.ret ?_;try simp only[aa,aj]
   refine zE ?_;rw[if_pos (by omega)];simp
  replace H:=And.intro d20 H;refine WpC.skip ?_;refine zR ?_;refine WpC.ret ?_;try simp only[aa,aj]
  refine zE ?_;rw[if_neg (by omega)];simp
 |false=>
  rw[hlt] at h1;rw[if_neg (by simp)]
  cases hdg:du c with
  |true=>
   rw[hdg] at h2;rw[if_pos rfl];have hff:=hf (hpos hdg);refine ah.enter tabOk Tryz.func32 rfl (by show 2<=43;decide) ?_
   simp only[Tryz.f32];have H:=And.intro hc (And.intro w1 (And.intro w2 (And.intro w3 (And.intro w4 hl))));refine zR ?_;refine WpC.seq ?_;refine zR ?_;refine WpC.block ?_;refine WpC.seq ?_;refine WpC.region ?_;refine zO 1 ?_;refine zG lw (h1) ?_;refine zO 1 ?_;refine WpO.nil ?_;refine zF ?_;refine WpC.seq ?_;refine WpC.region ?_;refine zO 1 ?_;refine zG jJ (h2) ?_;refine zO 1 ?_;refine WpO.nil ?_;refine zT ?_;refine WpC.seq ?_;refine WpC.region ?_;refine zO 2 ?_;refine zG lA (r2) ?_;refine zO 1 ?_;refine WpO.nil ?_;refine WpC.seq ?_;refine WpC.region ?_;refine zO 6 ?_;refine zG Cr (hff) ?_;refine zO 3 ?_;refine WpO.nil ?_;refine WpC.ret ?_;try simp only[aa,aj]
   refine zE ?_;simp -implicitDefEqProofs[H]
  |false=>
   rw[hdg] at h2;rw[if_neg (by simp)]
   refine ah.enter tabOk Tryz.func32 rfl (by show 2<=43;decide) ?_
   simp only[Tryz.f32];have H:=And.intro hc (And.intro hl (And.intro hdt hal));refine zR ?_;refine WpC.seq ?_;refine zR ?_;refine WpC.block ?_;refine WpC.seq ?_;refine WpC.region ?_;refine zO 1 ?_;refine zG lw (h1) ?_;refine zO 1 ?_;refine WpO.nil ?_;refine zF ?_;refine WpC.seq ?_;refine WpC.region ?_;refine zO 1 ?_;refine zG jJ (h2) ?_;refine zO 1 ?_;refine WpO.nil ?_;refine zF ?_;refine WpC.skip ?_;refine WpC.seq ?_;refine WpC.region ?_;refine zO 3 ?_;refine zG Cq (hs) ?_;refine zO 1 ?_;refine WpO.nil ?_;refine WpC.seq ?_;refine zR ?_;refine zD (n3=0) (λd41=>?_) (λd41=>?_)
   ·replace H:=And.intro d41 H;refine zR ?_;refine WpC.ret ?_;try simp only[aa,aj]
    refine zE ?_;rw[if_pos d41];simp
   replace H:=And.intro d41 H;refine WpC.skip ?_;refine zR ?_;refine WpC.ret ?_;try simp only[aa,aj]
   refine zE ?_;rw[if_neg d41];have:(n3.toNat:Int)=n3:=by omega
   simp[this]
structure Tok where
 kind:Int
 text:List UInt8
 pos:Nat
 deriving DecidableEq,Inhabited
@[reducible] def Tok.cs (p:Tok):List D:=[dI p.kind,.str p.text,dI p.pos]
@[reducible] def Tok.enc (p:Tok):D:= .agg p.cs
@[reducible] def DV (l:List Tok):D:= .list 3 (l.map Tok.enc)
def spB (c:UInt8):Bool:=decide ((c.toNat:Int)=32)||decide ((c.toNat:Int)=10)
def jw:Nat->Nat->List UInt8->Except Nat (List Tok)
 |0,_,_=> .ok []
 |_+1,_,[]=> .ok []
 |f+1,a,c::r=>
  if spB c=true then jw f (a+1) r
  else if decide ((c.toNat:Int)=35)=true then jw f (a+cN oS (c::r)) ((c::r).drop (cN oS (c::r)))
  else if (js (c::r)).1=0 then .error a
  else match jw f (a+(js (c::r)).2) ((c::r).drop (js (c::r)).2) with
   | .error e=> .error e
   | .ok l=> .ok (⟨(js (c::r)).1,(c::r).take (js (c::r)).2,a⟩::l)
def oV (s:List UInt8):Except Nat (List Tok):=jw (s.length+1) 0 s
def pg (acc:List Tok):Except Nat (List Tok)->Except Nat (List Tok)
 | .error e=> .error e
 | .ok l=> .ok (acc++l)
theorem xT (r:Except Nat (List Tok)):pg [] r=r:=by cases r<;>rfl
theorem u_ (acc:List Tok) (t:Tok) (r:Except Nat (List Tok)):pg acc (match r with| .error e=> .error e| .ok l=> .ok (t::l))=pg (acc++[t]) r:=by cases r<;>simp[pg]
theorem Bf {c:UInt8} {r:List UInt8} (h:(js (c::r)).1≠0):1<=(js (c::r)).2/\(js (c::r)).2<=(c::r).length:=by
 unfold js at h ⊢;rw[show(c::r).headD 0=c from rfl] at h ⊢
 have hl1:=jf ga (c::r);have hl2:=jf gY (c::r);have hs:=sK (c::r);by_cases hc:e_ c=true
 ·rw[if_pos hc] at h ⊢;by_cases hn:12<cN ga (c::r)
  ·rw[if_pos hn] at h;exact absurd rfl h
  ·rw[if_neg hn];exact⟨lZ (by simp[ga,hc]),hl1⟩
 ·rw[if_neg hc] at h ⊢;by_cases hd:du c=true
  ·rw[if_pos hd];exact⟨lZ (by simp[gY,hd]),hl2⟩
  ·rw[if_neg hd] at h ⊢;by_cases hz:gI (c::r)=0
   ·rw[if_pos hz] at h;exact absurd rfl h
   ·rw[if_neg hz];have h2:gI (c::r)=2->2<=(c::r).length:=λe=>by
     unfold gI at e;split at e
     ·rename_i ha;obtain⟨v,hv,hp⟩:=List.any_eq_true.1 ha;have hvl:v.length=2:=by
       have:∀v∈m5,v.length=2:=by decide
       exact this v hv
      have:=(List.isPrefixOf_iff_prefix.1 hp).length_le;omega
     ·split at e<;>simp at e
    simp only[List.length_cons] at h2 ⊢;omega
def qK:Except Nat (List Tok)->FV
 | .ok l=> .tup [.d (DV l),.d (dI 0),.d (dI 0)]
 | .error a=> .tup [.d (.list 3 []),.d (dI a),.d (dI 2)]
set_option maxHeartbeats 1000000 in
theorem Bu (s:List UInt8) (h:s.length<=500000000):ah Tryz.prog 17 [.d (.str s)] (qK (oV s)):=by
 refine ah.enter tabOk Tryz.func17 rfl (by show 1<=59;decide) ?_
 simp only[Tryz.f17];have H:=trivial;refine zR ?_;refine WpC.scopeM [0] ((0,[]):Nat×List Tok) (λx=>s.length-x.1) (λx=>[(5,.sl 0 x.2.length),(6,.d (dI x.1))]) (λx=>[.arr 104 3 (x.2.map Tok.enc)]) (λx=>x.1<=s.length/\x.2.length<=x.1/\∃f,s.length-x.1<f/\oV s=pg x.2 (jw f x.1 (s.drop x.1))) 0 (by rfl) (by simp -implicitDefEqProofs[H]<;>rfl) (λK hK=>?_) ?_
 ·refine zR ?_;refine zR ?_;refine WpC.seq (WpC.label ?_);refine WpC.gh (Gh.nilArr 104 3 (t:=5) (by simp) (by simp)) ?_
  exact hK ((0,[])) (⟨Nat.zero_le _,Nat.le_refl _,s.length+1,by simp only;omega,by simp only[List.drop_zero,xT];rfl⟩) (Gh.cut' [5,6,0] 1 (by simp -implicitDefEqProofs[H]) (by simp -implicitDefEqProofs[H]) rfl (by simp) (by simp) (by simp))
 rintro x hi;simp only[List.cons_append,List.nil_append];obtain⟨a,acc⟩:=x;obtain⟨h1,h2,f,hf,hl⟩:=hi;simp only at h1 h2 hf hl ⊢;cases f with
 |zero=>omega
 |succ f=>?_
 have hk8:acc.length<=8589934591:=by omega
 replace H:=And.intro hk8 H;refine WpC.seq ?_;refine zR ?_;refine zD ((s.length:Int)<=a) (λd12=>?_) (λd12=>?_)
 ·have hlx:oV s= .ok acc:=by
   rw[hl,List.drop_of_length_le (by omega)]
   simp[jw,pg]
  replace H:=And.intro d12 H;refine zR ?_;refine WpC.ret ?_;try simp only[aa,aj]
  refine zE ?_;rw[hlx];simp[qK]
 have hal:a<s.length:=by omega
 obtain⟨c,r,hcr⟩:∃c r,s.drop a=c::r:=⟨s[a],s.drop (a+1),List.drop_eq_getElem_cons hal⟩
 have hca:s[a]=c:=by
  have:=List.drop_eq_getElem_cons hal;rw[hcr] at this;exact(List.cons.inj this).1.symm
 have hdr:s.drop (a+1)=r:=by
  have:=List.drop_eq_getElem_cons hal;rw[hcr] at this;exact(List.cons.inj this).2.symm
 have hdl:(c::r).length=s.length-a:=by rw[<-hcr];exact List.length_drop
 have hw1:IntKind.i64.wrap ((a:Int)+1)=((a+1:Nat):Int):=by rw[am (by omega) (by omega)];omega
 rw[hcr,jw] at hl;have hrn:=oE 31 CB oS Bo s a h (by omega)
 rw[hcr] at hrn;have hn1:=jf oS (c::r);have hone:=Be s a h hal;rw[hcr] at hone;have hin:=Bf (c:=c) (r:=r);replace H:=And.intro d12 (And.intro hal (And.intro hca H));refine WpC.skip ?_;refine WpC.seq ?_;refine WpC.seq ?_;refine WpC.val 23 (.d (.bool (spB c))) ?_ ?_
 ·refine WpC.region ?_;refine zO 5 ?_;refine zS 18 (λg18=>?_) (λg18=>?_)
  ·try(exfalso;revert g18;simp;done)
   all_goals
    have g18':=zN g18;replace H:=And.intro g18 H;refine zO 5 ?_;refine WpO.nil ?_;refine⟨rfl,Gh.only 23 11 ?_ (by first|rfl|simp -implicitDefEqProofs[H]) (by rfl)⟩
    simp -implicitDefEqProofs[H,g18',spB]
  ·try(exfalso;revert g18;simp;done)
   all_goals
    have g18':=zN g18;replace H:=And.intro g18 H;refine zO 5 ?_;refine WpO.nil ?_;refine⟨rfl,Gh.only 23 11 ?_ (by first|rfl|simp -implicitDefEqProofs[H]) (by rfl)⟩
    simp -implicitDefEqProofs[H,g18',spB]
 refine zC (λc23=>?_) (λc23=>?_)
 ·have c23':=zN c23;rw[if_pos c23] at hl;have hl0:oV s=pg acc (jw f (a+1) (s.drop (a+1))):=by rw[hdr];exact hl
  replace H:=And.intro c23 (And.intro hw1 H);refine zR ?_;refine WpC.goto ?_;exact⟨rfl,(a+1,acc),⟨by simp only;omega,by simp only;omega,f,by simp only;omega,hl0⟩,by simp only;omega,Gh.cut' [5,6,0] 1 (by simp -implicitDefEqProofs[H,c23']) (by simp -implicitDefEqProofs[H,c23']) rfl (by simp) (by simp) (by simp)⟩
 have c23':=zN c23;rw[if_neg (by simpa using c23)] at hl
 replace H:=And.intro c23 H;refine WpC.skip ?_;refine WpC.seq ?_;refine zR ?_;refine zD ((c.toNat:Int)=35) (λd29=>?_) (λd29=>?_)
 ·rw[if_pos (decide_eq_true d29)] at hl;have hpos:1<=cN oS (c::r):=lZ (by simp[oS];omega)
  obtain⟨n1,hn⟩:∃n,cN oS (c::r)=n:=⟨_,rfl⟩
  rw[hn] at hl hrn hn1 hpos;have hw2:IntKind.i64.wrap ((a:Int)+n1)=((a+n1:Nat):Int):=by rw[am (by omega) (by omega)];omega
  have hl1:oV s=pg acc (jw f (a+n1) (s.drop (a+n1))):=by rw[<-List.drop_drop,hcr];exact hl
  replace H:=And.intro d29 (And.intro hw2 H);refine WpC.seq ?_;refine WpC.region ?_;refine zO 3 ?_;refine zG lA (hrn) ?_;refine zO 2 ?_;refine WpO.nil ?_;refine WpC.goto ?_;exact⟨rfl,(a+n1,acc),⟨by simp only;omega,by simp only;omega,f,by simp only;omega,hl1⟩,by simp only;omega,Gh.cut' [5,6,0] 1 (by simp -implicitDefEqProofs[H,c23']) (by simp -implicitDefEqProofs[H,c23']) rfl (by simp) (by simp) (by simp)⟩
 rw[if_neg (by simpa using d29)] at hl
 obtain⟨k2,hk2⟩:∃n,(js (c::r)).1=n:=⟨_,rfl⟩
 obtain⟨n2,hn2⟩:∃n,(js (c::r)).2=n:=⟨_,rfl⟩
 rw[hk2,hn2] at hl hone hin;replace H:=And.intro d29 H;refine WpC.skip ?_;refine WpC.seq ?_;refine WpC.region ?_;refine zO 2 ?_;refine zG CA (hone) ?_;refine zO 5 ?_;refine WpO.nil ?_;refine WpC.seq ?_;refine zR ?_;refine zD (k2=0) (λd42=>?_) (λd42=>?_)
 ·rw[if_pos d42] at hl;have hlx:oV s= .error a:=by rw[hl];rfl
  replace H:=And.intro d42 H;refine zR ?_;refine WpC.ret ?_;try simp only[aa,aj]
  refine zE ?_;rw[hlx];simp[qK]
 rw[if_neg d42,u_] at hl;have hin2:=hin d42;have hw3:IntKind.i64.wrap ((a:Int)+n2)=((a+n2:Nat):Int):=by rw[am (by omega) (by omega)];omega
 obtain⟨e,he⟩:∃e,a+n2=e:=⟨_,rfl⟩
 rw[he] at hw3;have hl2:oV s=pg (acc++[⟨k2,(c::r).take n2,a⟩]) (jw f e (s.drop e)):=by rw[<-he,<-List.drop_drop,hcr];exact hl
 have w2:e-a=n2:=by omega
 have w3:e<=s.length:=by omega
 have w4:a<=e:=by omega
 replace H:=And.intro d42 (And.intro hw3 (And.intro w2 (And.intro w3 (And.intro w4 (And.intro hcr H)))));refine WpC.skip ?_;iterate 2 refine zR ?_
 refine WpC.goto ?_;exact⟨rfl,(e,acc++[⟨k2,(c::r).take n2,a⟩]),⟨by simp only;omega,by simp only[List.length_append,List.length_cons,List.length_nil];omega,f,by simp only;omega,hl2⟩,by simp only;omega,Gh.pick [5,6,0] [2] (by simp;rfl) (by simp[hk8]) (by simp) (by simp) (by simp;rfl) (by simp) (by simp)⟩
structure Ex where
 op:List UInt8
 name:List UInt8
 val:Int
 a:Int
 b:Int
 c:Int
 deriving DecidableEq,Inhabited
@[reducible] def Ex.cs (p:Ex):List D:=[.str p.op,.str p.name,dI p.val,dI p.a,dI p.b,dI p.c]
@[reducible] def Ex.enc (p:Ex):D:= .agg p.cs
structure Ru where
 kind:List UInt8
 name:List UInt8
 root:Int
 deriving DecidableEq,Inhabited
@[reducible] def Ru.cs (p:Ru):List D:=[.str p.kind,.str p.name,dI p.root]
@[reducible] def Ru.enc (p:Ru):D:= .agg p.cs
@[reducible] def aM (l:List Ex):D:= .list 6 (l.map Ex.enc)
@[reducible] def aL (l:List Ru):D:= .list 3 (l.map Ru.enc)
structure Ps where
 pos:Nat
 rules:List Ru
 exprs:List Ex
 err:Int
 place:Int
@[reducible] def rH:TypeId:=81
@[reducible] def rG:TypeId:=116
@[reducible] def pK:TypeId:=136
@[reducible] def psC (toks:List Tok) (en:Nat) (st:Ps) (i j:Nat):List FV:=[.d (DV toks),.d (dI en),.d (dI st.pos),.sl i st.rules.length,.sl j st.exprs.length,.d (dI st.err),.d (dI st.place)]
@[reducible] def S0 (toks:List Tok) (en:Nat) (st:Ps):List Ob:=[.cells rH (psC toks en st 1 2),.arr rG 3 (st.rules.map Ru.enc),.arr pK 6 (st.exprs.map Ex.enc)]
@[reducible] def S2 (toks:List Tok) (en:Nat) (st:Ps):List Ob:=[.cells rH (psC toks en st 3 4),.gone,.gone,.arr rG 3 (st.rules.map Ru.enc),.arr pK 6 (st.exprs.map Ex.enc)]
def G_ (toks:List Tok) (en:Nat) (st:Ps) (v:FV) (r:FV) (S:List Ob):Prop:=r=v/\∃i j,i≠j/\1<=i/\1<=j/\S[0]?=some (.cells rH (psC toks en st i j))/\S[i]?=some (.arr rG 3 (st.rules.map Ru.enc))/\S[j]?=some (.arr pK 6 (st.exprs.map Ex.enc))
def Fh (i j n k:Nat):Nat:=if k=3 then i else if k=4 then j else n
theorem aW {f:FuncId} {args:List FV} {toks:List Tok} {en:Nat} {st st':Ps} {v:FV} (hfl:jC v=true) (h:WpF Tryz.prog f args (S0 toks en st) (G_ toks en st' v)):WpF Tryz.prog f args (S0 toks en st) λr S=>r=v/\S=S2 toks en st':=
 λw I L vs h1 h2=>(h w I L vs h1 h2).mono λex w' ⟨r,u,S',I',L',e1,⟨hr,i,j,hij,hi1,hj1,hc,hi,hj⟩,hv,ho,he,hlen,hL⟩=>by
 subst hr;have hlen3:3<=S'.length:=hlen;have hll:=ho.len;have hget:∀ {k:Nat} {o:Ob},S'[k]?=some o->∃l,L'[k]?=some l:=λ{k o} hk=>by
  have:k<L'.length:=by rw[hll];exact(List.getElem?_eq_some_iff.1 hk).1
  exact⟨_,List.getElem?_eq_getElem this⟩
 obtain⟨l0,hl0⟩:=hget hc;obtain⟨li,hli⟩:=hget hi;obtain⟨lj,hlj⟩:=hget hj;have hlen':(L'.take 3).length=3:=by rw[List.length_take];omega
 have g0:(L'.take 3++[li,lj])[0]?=some l0:=by rw[List.getElem?_append_left (by omega),List.getElem?_take,if_pos (by omega)];exact hl0
 have g3:(L'.take 3++[li,lj])[3]?=some li:=by rw[List.getElem?_append_right (by omega),hlen'];rfl
 have g4:(L'.take 3++[li,lj])[4]?=some lj:=by rw[List.getElem?_append_right (by omega),hlen'];rfl
 have o0:=ho.obs _ _ _ hc hl0;have o3:=ho.obs _ _ _ hi hli;have o4:=ho.obs _ _ _ hj hlj;have b0:b7 w' I' (L'.take 3++[li,lj]) (.cells rH (psC toks en st' 3 4)) l0:=by
  refine b7.back (σ:=Fh i j L'.length) (L:=L') (λk l hk=>?_) (by simpa[cC,eL,ren,Fh] using o0)
  unfold Fh at hk;split at hk
  ·rename_i h3;subst h3;rw[g3,<-hk,hli]
  ·split at hk
   ·rename_i _ h4;subst h4;rw[g4,<-hk,hlj]
   ·rw[List.getElem?_eq_none (Nat.le_refl _)] at hk;cases hk
 have key:∀(q:Nat) (o:Ob) (l:Lay),(S2 toks en st')[q]?=some o->(L'.take 3++[li,lj])[q]?=some l->o= .gone\/∃q' o',S'[q']?=some o'/\L'[q']?=some l/\own o l=own o' l/\(q=0/\q'=0\/q=3/\q'=i\/q=4/\q'=j):=by
  intro q o l e1 e2
  match q,e1,e2 with
  |0,e1,e2=>
   rw[g0] at e2;cases e2;simp only[List.getElem?_cons_zero,Option.some.injEq] at e1;subst e1;exact .inr ⟨0,_,hc,hl0,by cases l0<;>rfl,.inl ⟨rfl,rfl⟩⟩
  |1,e1,e2=>simp at e1;exact .inl e1.symm
  |2,e1,e2=>simp at e1;exact .inl e1.symm
  |3,e1,e2=>
   rw[g3] at e2;cases e2;simp at e1;subst e1;exact .inr ⟨i,_,hi,hli,rfl,.inr (.inl ⟨rfl,rfl⟩)⟩
  |4,e1,e2=>
   rw[g4] at e2;cases e2;simp at e1;subst e1;exact .inr ⟨j,_,hj,hlj,rfl,.inr (.inr ⟨rfl,rfl⟩)⟩
  |n+5,e1,e2=>simp at e1
 have hsub:∀b∈aB (S2 toks en st') (L'.take 3++[li,lj]),b∈aB S' L':=λb hb=>by
  obtain⟨q,o,l,e1,e2,e3⟩:=aZ hb;rcases key q o l e1 e2 with rfl|⟨q',o',k1,k2,k3,_⟩
  ·simp[own] at e3
  ·exact aw k1 k2 b (k3▸e3)
 refine⟨r,u,S2 toks en st',I',L'.take 3++[li,lj],e1,⟨rfl,rfl⟩,nZ hfl hv,⟨by simp[hlen'],?_,?_,λb hb=>ho.sep b (hsub b hb),ho.imm⟩,⟨he.os,he.tape,he.output,he.size,he.keep,he.imm,he.immNew,λb hb=>he.own b (hsub b hb)⟩,by simp,?_⟩
 ·intro q o l e1 e2
  match q,e1,e2 with
  |0,e1,e2=>
   rw[g0] at e2;cases e2;simp only[List.getElem?_cons_zero,Option.some.injEq] at e1;subst e1;exact b0
  |1,e1,e2=>simp at e1;subst e1;trivial
  |2,e1,e2=>simp at e1;subst e1;trivial
  |3,e1,e2=>
   rw[g3] at e2;cases e2;simp at e1;subst e1;exact o3
  |4,e1,e2=>
   rw[g4] at e2;cases e2;simp at e1;subst e1;exact o4
  |n+5,e1,e2=>simp at e1
 ·refine cY ?_;intro q1 q2 o1 o2 l1 l2 hne e1 e2 e3 e4 b hb hb2;rcases key q1 o1 l1 e1 e2 with rfl|⟨q1',o1',a1,a2,a3,a4⟩
  ·simp[own] at hb
  ·rcases key q2 o2 l2 e3 e4 with rfl|⟨q2',o2',c1,c2,c3,c4⟩
   ·simp[own] at hb2
   ·exact aR ho.nodup a1 a2 c1 c2 (by omega) b (a3▸hb) (c3▸hb2)
 ·intro q hq;have hq3:q<3:=hq;rw[List.getElem?_append_left (by omega),List.getElem?_take,if_pos hq3]
  exact hL q hq
end Go.Proofs.YtlhmejigmokbhaaGreatDoor.Pay
