/- The texts CkA, one behind the other. No statement of the seed is proved here. -/
import Derived.Test.YtlhmejigmokbhaaGreatDoorMgW
import Derived.Test.YtlhmejigmokbhaaGreatDoorMgBE
namespace Go.Proofs.YtlhmejigmokbhaaGreatDoor.Pay
open Go Go.RowKit
set_option linter.unusedVariables false
set_option linter.unusedSimpArgs false
structure Bd where
 name:List UInt8
 kind:Int
 deriving DecidableEq,Inhabited
@[reducible] def Bd.cs (p:Bd):List D:=[.str p.name,dI p.kind]
@[reducible] def Bd.enc (p:Bd):D:= .agg p.cs
@[reducible] def tA (l:List Bd):D:= .list 2 (l.map Bd.enc)
@[reducible] def rI:TypeId:=169
theorem qy (l:List Bd) (cs:List D) (g:FuncId) (hcal:af Tryz.prog g) (f:Bd->Bool) (hc:∀b∈l,ah Tryz.prog g (.d (b.enc)::[.dp cs]) (.d (.bool (f b)))) (hl:l.length<=1000000000):ah Tryz.prog 164 [.d (tA l),.fn g [.dp cs]] (.d (dI (bZ f l))):=by
 refine ah.enter tabOk Tryz.func164 rfl (by show 2<=19;decide) ?_
 simp only[Tryz.f164];have H:=trivial;refine zR ?_;refine WpC.seq ?_;refine zR ?_;refine WpC.block ?_;refine WpC.loopK [0,1,7] [8] (l.length) (():Unit) (λk _=>[(8,.d (.int .i64 k))]) (λk _=>[]) (λk _=>(l.take k).any f=false) (by simp -implicitDefEqProofs[H]<;>rfl) (Gh.cut' [8,0,1,7] 0 (by simp -implicitDefEqProofs[H]) (by simp -implicitDefEqProofs[H]) rfl (by simp) (by simp) (by simp)) (by simp) ?_
 rintro k ⟨⟩ hk hi;simp only[List.cons_append,List.nil_append];refine zR ?_;refine WpC.seq (zL (k<l.length) (λhlt=>?_) (λhge=>?_))
 ·refine WpC.skip ?_;have hst:=cf f hlt;obtain⟨x,hx⟩:∃x,l[k]=x:=⟨_,rfl⟩
  have hw:IntKind.i64.wrap ((k:Int)+1)=k+1:=am (by omega) (by omega)
  have hfi:=cF f hlt hi;rw[hi,hx] at hst;rw[hx] at hfi;have hck:=hc x (hx▸List.getElem_mem hlt);replace H:=And.intro hlt (And.intro hx (And.intro hw H));refine WpC.seq ?_;refine WpC.block ?_;refine zR ?_;refine WpC.seq ?_;refine WpC.region ?_;refine zO 5 ?_;refine zG hcal (hck) ?_;refine WpO.nil ?_;refine zC (λc16=>?_) (λc16=>?_)
  ·have c16':=zN c16;replace H:=And.intro c16 H;refine zR ?_;refine WpC.ret ?_;try simp only[aa,aj]
   refine zE ?_;have:=hfi (by simpa using c16)
   simp[bZ,this]
  have c16':=zN c16;replace H:=And.intro c16 H;refine WpC.skip ?_;refine zr ?_;exact⟨hlt,(),by rw[hst];simpa using c16,Gh.cut' [8,0,1,7] 0 (by simp -implicitDefEqProofs[H,c16']) (by simp) rfl (by simp) (by simp) (by simp)⟩
 refine WpC.exit ?_;have hkn:k=l.length:=by omega
 subst hkn;rw[List.take_of_length_le (Nat.le_refl _)] at hi;refine zR ?_;refine WpC.ret ?_;try simp only[aa,aj]
 refine zE ?_;have:l.findIdx? f=none:=by rw[List.findIdx?_eq_none_iff];simpa using hi
 simp[bZ,this]
theorem xn (l:List Int) (cs:List D) (g:FuncId) (hcal:af Tryz.prog g) (f:Int->Bool) (hc:∀b∈l,ah Tryz.prog g (.d (dI b)::[.dp cs]) (.d (.bool (f b)))) (hl:l.length<=1000000000):ah Tryz.prog 96 [.d (.list 1 (l.map dI)),.fn g [.dp cs]] (.d (dI (bZ f l))):=by
 refine ah.enter tabOk Tryz.func96 rfl (by show 2<=19;decide) ?_
 simp only[Tryz.f96];have H:=trivial;refine zR ?_;refine WpC.seq ?_;refine zR ?_;refine WpC.block ?_;refine WpC.loopK [0,1,7] [8] (l.length) (():Unit) (λk _=>[(8,.d (.int .i64 k))]) (λk _=>[]) (λk _=>(l.take k).any f=false) (by simp -implicitDefEqProofs[H]<;>rfl) (Gh.cut' [8,0,1,7] 0 (by simp -implicitDefEqProofs[H]) (by simp -implicitDefEqProofs[H]) rfl (by simp) (by simp) (by simp)) (by simp) ?_
 rintro k ⟨⟩ hk hi;simp only[List.cons_append,List.nil_append];refine zR ?_;refine WpC.seq (zL (k<l.length) (λhlt=>?_) (λhge=>?_))
 ·refine WpC.skip ?_;have hst:=cf f hlt;obtain⟨x,hx⟩:∃x,l[k]=x:=⟨_,rfl⟩
  have hw:IntKind.i64.wrap ((k:Int)+1)=k+1:=am (by omega) (by omega)
  have hfi:=cF f hlt hi;rw[hi,hx] at hst;rw[hx] at hfi;have hck:=hc x (hx▸List.getElem_mem hlt);replace H:=And.intro hlt (And.intro hx (And.intro hw H));refine WpC.seq ?_;refine WpC.block ?_;refine zR ?_;refine WpC.seq ?_;refine WpC.region ?_;refine zO 5 ?_;refine zG hcal (hck) ?_;refine WpO.nil ?_;refine zC (λc16=>?_) (λc16=>?_)
  ·have c16':=zN c16;replace H:=And.intro c16 H;refine zR ?_;refine WpC.ret ?_;try simp only[aa,aj]
   refine zE ?_;have:=hfi (by simpa using c16)
   simp[bZ,this]
  have c16':=zN c16;replace H:=And.intro c16 H;refine WpC.skip ?_;refine zr ?_;exact⟨hlt,(),by rw[hst];simpa using c16,Gh.cut' [8,0,1,7] 0 (by simp -implicitDefEqProofs[H,c16']) (by simp) rfl (by simp) (by simp) (by simp)⟩
 refine WpC.exit ?_;have hkn:k=l.length:=by omega
 subst hkn;rw[List.take_of_length_le (Nat.le_refl _)] at hi;refine zR ?_;refine WpC.ret ?_;try simp only[aa,aj]
 refine zE ?_;have:l.findIdx? f=none:=by rw[List.findIdx?_eq_none_iff];simpa using hi
 simp[bZ,this]
theorem xp (l:List Bool) (cs:List D) (g:FuncId) (hcal:af Tryz.prog g) (f:Bool->Bool) (hc:∀b∈l,ah Tryz.prog g (.d (.bool b)::[]) (.d (.bool (f b)))) (hl:l.length<=1000000000):ah Tryz.prog 117 [.d (.list 1 (l.map D.bool)),.fn g []] (.d (dI (bZ f l))):=by
 refine ah.enter tabOk Tryz.func117 rfl (by show 2<=19;decide) ?_
 simp only[Tryz.f117];have H:=trivial;refine zR ?_;refine WpC.seq ?_;refine zR ?_;refine WpC.block ?_;refine WpC.loopK [0,1,7] [8] (l.length) (():Unit) (λk _=>[(8,.d (.int .i64 k))]) (λk _=>[]) (λk _=>(l.take k).any f=false) (by simp -implicitDefEqProofs[H]<;>rfl) (Gh.cut' [8,0,1,7] 0 (by simp -implicitDefEqProofs[H]) (by simp -implicitDefEqProofs[H]) rfl (by simp) (by simp) (by simp)) (by simp) ?_
 rintro k ⟨⟩ hk hi;simp only[List.cons_append,List.nil_append];refine zR ?_;refine WpC.seq (zL (k<l.length) (λhlt=>?_) (λhge=>?_))
 ·refine WpC.skip ?_;have hst:=cf f hlt;obtain⟨x,hx⟩:∃x,l[k]=x:=⟨_,rfl⟩
  have hw:IntKind.i64.wrap ((k:Int)+1)=k+1:=am (by omega) (by omega)
  have hfi:=cF f hlt hi;rw[hi,hx] at hst;rw[hx] at hfi;have hck:=hc x (hx▸List.getElem_mem hlt);replace H:=And.intro hlt (And.intro hx (And.intro hw H));refine WpC.seq ?_;refine WpC.block ?_;refine zR ?_;refine WpC.seq ?_;refine WpC.region ?_;refine zO 5 ?_;refine zG hcal (hck) ?_;refine WpO.nil ?_;refine zC (λc16=>?_) (λc16=>?_)
  ·have c16':=zN c16;replace H:=And.intro c16 H;refine zR ?_;refine WpC.ret ?_;try simp only[aa,aj]
   refine zE ?_;have:=hfi (by simpa using c16)
   simp[bZ,this]
  have c16':=zN c16;replace H:=And.intro c16 H;refine WpC.skip ?_;refine zr ?_;exact⟨hlt,(),by rw[hst];simpa using c16,Gh.cut' [8,0,1,7] 0 (by simp -implicitDefEqProofs[H,c16']) (by simp) rfl (by simp) (by simp) (by simp)⟩
 refine WpC.exit ?_;have hkn:k=l.length:=by omega
 subst hkn;rw[List.take_of_length_le (Nat.le_refl _)] at hi;refine zR ?_;refine WpC.ret ?_;try simp only[aa,aj]
 refine zE ?_;have:l.findIdx? f=none:=by rw[List.findIdx?_eq_none_iff];simpa using hi
 simp[bZ,this]
theorem qN (l:List Bd) (cs:List D) (g:FuncId) (hcal:af Tryz.prog g) (f:Bd->Bool) (hc:∀b∈l,ah Tryz.prog g (.d (b.enc)::[.dp cs]) (.d (.bool (f b)))) (hl:l.length<=1000000000):ah Tryz.prog 123 [.d (tA l),.fn g [.dp cs]] (.d (.bool (l.any f))):=by
 refine ah.enter tabOk Tryz.func123 rfl (by show 2<=9;decide) ?_
 simp only[Tryz.f123];have H:=trivial;refine zR ?_;refine WpC.seq ?_;refine WpC.region ?_;refine zO 2 ?_;refine zG qV (qy l cs g hcal f hc hl) ?_;refine zO 2 ?_;refine WpO.nil ?_;refine WpC.ret ?_;try simp only[aa,aj]
 refine zE ?_;simp[<-dS]
theorem qM (l:List Int) (cs:List D) (g:FuncId) (hcal:af Tryz.prog g) (f:Int->Bool) (hc:∀b∈l,ah Tryz.prog g (.d (dI b)::[.dp cs]) (.d (.bool (f b)))) (hl:l.length<=1000000000):ah Tryz.prog 69 [.d (.list 1 (l.map dI)),.fn g [.dp cs]] (.d (.bool (l.any f))):=by
 refine ah.enter tabOk Tryz.func69 rfl (by show 2<=9;decide) ?_
 simp only[Tryz.f69];have H:=trivial;refine zR ?_;refine WpC.seq ?_;refine WpC.region ?_;refine zO 2 ?_;refine zG ph (xn l cs g hcal f hc hl) ?_;refine zO 2 ?_;refine WpO.nil ?_;refine WpC.ret ?_;try simp only[aa,aj]
 refine zE ?_;simp[<-dS]
theorem BB {α:Type} {f:α->Bool} {l:List α} (h:0<=bZ f l):∃j:Nat,bZ f l=j/\j<l.length:=by
 unfold bZ at h ⊢;cases hf:l.findIdx? f with
 |none=>rw[hf] at h;simp at h
 |some j=>rw[List.findIdx?_eq_some_iff_getElem] at hf;exact⟨j,rfl,hf.1⟩
theorem uP (b:Bd) (x:Ex):ah Tryz.prog 165 [.d b.enc,.dp x.cs] (.d (.bool (b.name==x.name))):=by
 refine ah.enter tabOk Tryz.func165 rfl (by show 2<=9;decide) ?_
 simp only[Tryz.f165];have H:=trivial;iterate 2 refine zR ?_
 refine WpC.ret ?_;try simp only[aa,aj]
 refine zE ?_;simp
theorem uO (b:Bd) (x:Ex):ah Tryz.prog 124 [.d b.enc,.dp x.cs] (.d (.bool (b.name==x.name))):=by
 refine ah.enter tabOk Tryz.func124 rfl (by show 2<=9;decide) ?_
 simp only[Tryz.f124];have H:=trivial;iterate 2 refine zR ?_
 refine WpC.ret ?_;try simp only[aa,aj]
 refine zE ?_;simp
theorem uF (b:Bd) (r:Ru):ah Tryz.prog 161 [.d b.enc,.dp r.cs] (.d (.bool (b.name==r.name))):=by
 refine ah.enter tabOk Tryz.func161 rfl (by show 2<=9;decide) ?_
 simp only[Tryz.f161];have H:=trivial;iterate 2 refine zR ?_
 refine WpC.ret ?_;try simp only[aa,aj]
 refine zE ?_;simp
theorem Bm (b:Bool):ah Tryz.prog 118 [.d (.bool b)] (.d (.bool (!b))):=by
 refine ah.enter tabOk Tryz.func118 rfl (by show 1<=5;decide) ?_
 simp only[Tryz.f118];have H:=trivial;iterate 2 refine zR ?_
 refine WpC.ret ?_;try simp only[aa,aj]
 refine zE ?_;simp
theorem xR (d:List Bool) (n:Int) (h0:0<=n) (h1:n<d.length):ah Tryz.prog 120 [.d (dI n),.dp [.list 1 (d.map D.bool)]] (.d (.bool (!d.getD n.toNat false))):=by
 obtain⟨i,rfl⟩:∃i:Nat,n=i:=⟨n.toNat,by omega⟩
 have hi:i<d.length:=by omega
 obtain⟨b,hb⟩:∃b,d[i]=b:=⟨_,rfl⟩
 have hg:d.getD ((i:Int).toNat) false=b:=by rw[Int.toNat_natCast,List.getD_eq_getElem?_getD,List.getElem?_eq_getElem hi,hb];rfl
 rw[hg];refine ah.enter tabOk Tryz.func120 rfl (by show 2<=9;decide) ?_
 simp only[Tryz.f120];have H:=And.intro hi hb;iterate 2 refine zR ?_
 refine WpC.ret ?_;try simp only[aa,aj]
 refine zE ?_;simp
def ek (i:Int) (n:Int):Bool:=!(decide (n<0)||decide (i<=n))
theorem Fn (i n:Int):ah Tryz.prog 94 [.d (dI n),.dp [dI i]] (.d (.bool (!ek i n))):=by
 refine ah.enter tabOk Tryz.func94 rfl (by show 2<=11;decide) ?_
 simp only[Tryz.f94];have H:=trivial;refine zR ?_;refine WpC.seq ?_;refine WpC.val 3 (.d (.bool (!ek i n))) ?_ ?_
 ·refine WpC.region ?_;refine zO 3 ?_;refine zS 6 (λg6=>?_) (λg6=>?_)
  ·have g6':=zN g6;replace H:=And.intro g6 H;refine zO 5 ?_;refine WpO.nil ?_;refine⟨rfl,Gh.only 3 9 ?_ (by first|rfl|simp -implicitDefEqProofs[H]) (by rfl)⟩
   simp -implicitDefEqProofs[H,g6',ek]
  have g6':=zN g6;replace H:=And.intro g6 H;refine zO 5 ?_;refine WpO.nil ?_;refine⟨rfl,Gh.only 3 9 ?_ (by first|rfl|simp -implicitDefEqProofs[H]) (by rfl)⟩
  simp -implicitDefEqProofs[H,g6',ek]
 refine WpC.ret ?_;try simp only[aa,aj]
 refine zE ?_;simp
def aE (x:Ex):List Int:=
 if x.op==[119,104,111,108,101] then [] else if x.op==[97,109,111,117,110,116] then [] else if x.op==[114,97,116,101] then [] else if x.op==[110,97,109,101] then []
 else if x.op==[110,101,103] then [x.a] else if x.op==[105,102] then [x.a,x.b,x.c] else [x.a,x.b]
theorem uz (x:Ex):ah Tryz.prog 163 [.d x.enc] (.d (.list 1 ((aE x).map dI))):=by
 refine ah.enter tabOk Tryz.func163 rfl (by show 1<=29;decide) ?_
 simp only[Tryz.f163];have H:=trivial;refine zR ?_;refine WpC.seq ?_;refine zR ?_;refine WpC.block ?_;refine WpC.seq ?_;refine zR ?_;refine zC (λc5=>?_) (λc5=>?_)
 ·have c5':=zN c5;replace H:=And.intro c5 H;refine WpC.skip ?_;refine zT ?_;refine zR ?_;refine WpC.ret ?_;try simp only[aa,aj]
  refine zE ?_;simp_all [aE]
 have c5':=zN c5;replace H:=And.intro c5 H;refine zR ?_;refine zC (λc5=>?_) (λc5=>?_)
 ·have c5':=zN c5;replace H:=And.intro c5 H;refine WpC.skip ?_;refine zT ?_;refine zR ?_;refine WpC.ret ?_;try simp only[aa,aj]
  refine zE ?_;simp_all [aE]
 have c5':=zN c5;replace H:=And.intro c5 H;refine zR ?_;refine zC (λc5=>?_) (λc5=>?_)
 ·have c5':=zN c5;replace H:=And.intro c5 H;refine WpC.skip ?_;refine zT ?_;refine zR ?_;refine WpC.ret ?_;try simp only[aa,aj]
  refine zE ?_;simp_all [aE]
 have c5':=zN c5;replace H:=And.intro c5 H;refine zr ?_;refine zC (λc5=>?_) (λc5=>?_)
 ·have c5':=zN c5;replace H:=And.intro c5 H;refine zR ?_;refine WpC.ret ?_;try simp only[aa,aj]
  refine zE ?_;simp_all [aE]
 have c5':=zN c5;replace H:=And.intro c5 H;refine zR ?_;refine zC (λc10=>?_) (λc10=>?_)
 ·have c10':=zN c10;replace H:=And.intro c10 H;refine zR ?_;refine WpC.ret ?_;try simp only[aa,aj]
  refine zE ?_;simp_all [aE]
 have c10':=zN c10;replace H:=And.intro c10 H;refine zR ?_;refine zC (λc15=>?_) (λc15=>?_)
 ·have c15':=zN c15;replace H:=And.intro c15 H;refine zR ?_;refine WpC.ret ?_;try simp only[aa,aj]
  refine zE ?_;simp_all [aE]
 have c15':=zN c15;replace H:=And.intro c15 H;refine WpC.skip ?_;refine zR ?_;refine WpC.ret ?_;try simp only[aa,aj]
 refine zE ?_;simp_all [aE]
theorem ux (x:Ex):ah Tryz.prog 93 [.d x.enc] (.d (.list 1 ((aE x).map dI))):=by
 refine ah.enter tabOk Tryz.func93 rfl (by show 1<=29;decide) ?_
 simp only[Tryz.f93];have H:=trivial;refine zR ?_;refine WpC.seq ?_;refine zR ?_;refine WpC.block ?_;refine WpC.seq ?_;refine zR ?_;refine zC (λc5=>?_) (λc5=>?_)
 ·have c5':=zN c5;replace H:=And.intro c5 H;refine WpC.skip ?_;refine zT ?_;refine zR ?_;refine WpC.ret ?_;try simp only[aa,aj]
  refine zE ?_;simp_all [aE]
 have c5':=zN c5;replace H:=And.intro c5 H;refine zR ?_;refine zC (λc5=>?_) (λc5=>?_)
 ·have c5':=zN c5;replace H:=And.intro c5 H;refine WpC.skip ?_;refine zT ?_;refine zR ?_;refine WpC.ret ?_;try simp only[aa,aj]
  refine zE ?_;simp_all [aE]
 have c5':=zN c5;replace H:=And.intro c5 H;refine zR ?_;refine zC (λc5=>?_) (λc5=>?_)
 ·have c5':=zN c5;replace H:=And.intro c5 H;refine WpC.skip ?_;refine zT ?_;refine zR ?_;refine WpC.ret ?_;try simp only[aa,aj]
  refine zE ?_;simp_all [aE]
 have c5':=zN c5;replace H:=And.intro c5 H;refine zr ?_;refine zC (λc5=>?_) (λc5=>?_)
 ·have c5':=zN c5;replace H:=And.intro c5 H;refine zR ?_;refine WpC.ret ?_;try simp only[aa,aj]
  refine zE ?_;simp_all [aE]
 have c5':=zN c5;replace H:=And.intro c5 H;refine zR ?_;refine zC (λc10=>?_) (λc10=>?_)
 ·have c10':=zN c10;replace H:=And.intro c10 H;refine zR ?_;refine WpC.ret ?_;try simp only[aa,aj]
  refine zE ?_;simp_all [aE]
 have c10':=zN c10;replace H:=And.intro c10 H;refine zR ?_;refine zC (λc15=>?_) (λc15=>?_)
 ·have c15':=zN c15;replace H:=And.intro c15 H;refine zR ?_;refine WpC.ret ?_;try simp only[aa,aj]
  refine zE ?_;simp_all [aE]
 have c15':=zN c15;replace H:=And.intro c15 H;refine WpC.skip ?_;refine zR ?_;refine WpC.ret ?_;try simp only[aa,aj]
 refine zE ?_;simp_all [aE]
def cm (a b:Int):Int:=if a=3/\b=3 then 3 else if a=1/\(b=3\/b=2) then 1 else if b=1/\(a=3\/a=2) then 1 else 0
theorem wx (a b:Int):ah Tryz.prog 191 [.d (dI a),.d (dI b)] (.d (dI (cm a b))):=by
 refine ah.enter tabOk Tryz.func191 rfl (by show 2<=33;decide) ?_
 simp only[Tryz.f191];have H:=trivial;refine zR ?_;refine WpC.seq ?_;refine WpC.block ?_;refine WpC.seq ?_;refine WpC.region ?_;refine zO 3 ?_;refine zS 8 (λg8=>?_) (λg8=>?_)
 ·try(exfalso;revert g8;simp;done)
  all_goals
   have g8':=zN g8;replace H:=And.intro g8 H;refine zO 4 ?_;refine WpO.nil ?_;refine zC (λc5=>?_) (λc5=>?_)
   ·have c5':=zN c5;replace H:=And.intro c5 H;refine zR ?_;refine WpC.ret ?_;try simp only[aa,aj]
    refine zE ?_;simp only[cm];repeat' split
    all_goals first|(exfalso;grind;done)|simp
   have c5':=zN c5;replace H:=And.intro c5 H;refine WpC.seq ?_;refine WpC.seq ?_;refine WpC.region ?_;refine zO 3 ?_;refine zS 15 (λg15=>?_) (λg15=>?_)
   ·try(exfalso;revert g15;simp;done)
    all_goals
     have g15':=zN g15;replace H:=And.intro g15 H;refine zO 3 ?_;refine zS 18 (λg18=>?_) (λg18=>?_)
     ·try(exfalso;revert g18;simp;done)
      all_goals
       have g18':=zN g18;replace H:=And.intro g18 H;refine zO 5 ?_;refine WpO.nil ?_;refine zT ?_;refine WpC.skip ?_;refine zT ?_;refine zR ?_;refine WpC.ret ?_;try simp only[aa,aj]
       refine zE ?_;simp only[cm];repeat' split
       all_goals first|(exfalso;grind;done)|simp
     ·try(exfalso;revert g18;simp;done)
      all_goals
       have g18':=zN g18;replace H:=And.intro g18 H;refine zO 5 ?_;refine WpO.nil ?_;refine zC (λc12=>?_) (λc12=>?_)
       ·have c12':=zN c12;replace H:=And.intro c12 H;refine WpC.skip ?_;refine zT ?_;refine zR ?_;refine WpC.ret ?_;try simp only[aa,aj]
        refine zE ?_;simp only[cm];repeat' split
        all_goals first|(exfalso;grind;done)|simp
       have c12':=zN c12;replace H:=And.intro c12 H;refine WpC.region ?_;refine zO 3 ?_;refine zS 25 (λg25=>?_) (λg25=>?_)
       ·try(exfalso;revert g25;simp;done)
        all_goals
         have g25':=zN g25;replace H:=And.intro g25 H;refine zO 3 ?_;refine zS 28 (λg28=>?_) (λg28=>?_)
         ·try(exfalso;revert g28;simp;done)
          all_goals
           have g28':=zN g28;replace H:=And.intro g28 H;refine zO 5 ?_;refine WpO.nil ?_;refine zT ?_;refine zR ?_;refine WpC.ret ?_;try simp only[aa,aj]
           refine zE ?_;simp only[cm];repeat' split
           all_goals first|(exfalso;grind;done)|simp
         ·try(exfalso;revert g28;simp;done)
          all_goals
           have g28':=zN g28;replace H:=And.intro g28 H;refine zO 5 ?_;refine WpO.nil ?_;refine zC (λc12=>?_) (λc12=>?_)
           ·have c12':=zN c12;replace H:=And.intro c12 H;refine zR ?_;refine WpC.ret ?_;try simp only[aa,aj]
            refine zE ?_;simp only[cm];repeat' split
            all_goals first|(exfalso;grind;done)|simp
           have c12':=zN c12;replace H:=And.intro c12 H;refine WpC.skip ?_;refine zR ?_;refine WpC.ret ?_;try simp only[aa,aj]
           refine zE ?_;simp only[cm];repeat' split
           all_goals first|(exfalso;grind;done)|simp
       ·try(exfalso;revert g25;simp;done)
        all_goals
         have g25':=zN g25;replace H:=And.intro g25 H;refine zO 8 ?_;refine WpO.nil ?_;refine zF ?_;refine WpC.skip ?_;refine zR ?_;refine WpC.ret ?_;try simp only[aa,aj]
         refine zE ?_;simp only[cm];repeat' split
         all_goals first|(exfalso;grind;done)|simp
   ·try(exfalso;revert g15;simp;done)
    all_goals
     have g15':=zN g15;replace H:=And.intro g15 H;refine zO 8 ?_;refine WpO.nil ?_;refine zF ?_;refine WpC.region ?_;refine zO 3 ?_;refine zS 25 (λg25=>?_) (λg25=>?_)
     ·try(exfalso;revert g25;simp;done)
      all_goals
       have g25':=zN g25;replace H:=And.intro g25 H;refine zO 3 ?_;refine zS 28 (λg28=>?_) (λg28=>?_)
       ·try(exfalso;revert g28;simp;done)
        all_goals
         have g28':=zN g28;replace H:=And.intro g28 H;refine zO 5 ?_;refine WpO.nil ?_;refine zT ?_;refine zR ?_;refine WpC.ret ?_;try simp only[aa,aj]
         refine zE ?_;simp only[cm];repeat' split
         all_goals first|(exfalso;grind;done)|simp
       ·try(exfalso;revert g28;simp;done)
        all_goals
         have g28':=zN g28;replace H:=And.intro g28 H;refine zO 5 ?_;refine WpO.nil ?_;refine zC (λc12=>?_) (λc12=>?_)
         ·have c12':=zN c12;replace H:=And.intro c12 H;refine zR ?_;refine WpC.ret ?_;try simp only[aa,aj]
          refine zE ?_;simp only[cm];repeat' split
          all_goals first|(exfalso;grind;done)|simp
         have c12':=zN c12;replace H:=And.intro c12 H;refine WpC.skip ?_;refine zR ?_;refine WpC.ret ?_;try simp only[aa,aj]
         refine zE ?_;simp only[cm];repeat' split
         all_goals first|(exfalso;grind;done)|simp
     ·try(exfalso;revert g25;simp;done)
      all_goals
       have g25':=zN g25;replace H:=And.intro g25 H;refine zO 8 ?_;refine WpO.nil ?_;refine zF ?_;refine WpC.skip ?_;refine zR ?_;refine WpC.ret ?_;try simp only[aa,aj]
       refine zE ?_;simp only[cm];repeat' split
       all_goals first|(exfalso;grind;done)|simp
 ·try(exfalso;revert g8;simp;done)
  all_goals
   have g8':=zN g8;replace H:=And.intro g8 H;refine zO 4 ?_;refine WpO.nil ?_;refine zF ?_;refine WpC.seq ?_;refine WpC.seq ?_;refine WpC.region ?_;refine zO 3 ?_;refine zS 15 (λg15=>?_) (λg15=>?_)
   ·try(exfalso;revert g15;simp;done)
    all_goals
     have g15':=zN g15;replace H:=And.intro g15 H;refine zO 3 ?_;refine zS 18 (λg18=>?_) (λg18=>?_)
     ·try(exfalso;revert g18;simp;done)
      all_goals
       have g18':=zN g18;replace H:=And.intro g18 H;refine zO 5 ?_;refine WpO.nil ?_;refine zT ?_;refine WpC.skip ?_;refine zT ?_;refine zR ?_;refine WpC.ret ?_;try simp only[aa,aj]
       refine zE ?_;simp only[cm];repeat' split
       all_goals first|(exfalso;grind;done)|simp
     ·try(exfalso;revert g18;simp;done)
      all_goals
       have g18':=zN g18;replace H:=And.intro g18 H;refine zO 5 ?_;refine WpO.nil ?_;refine zC (λc12=>?_) (λc12=>?_)
       ·have c12':=zN c12;replace H:=And.intro c12 H;refine WpC.skip ?_;refine zT ?_;refine zR ?_;refine WpC.ret ?_;try simp only[aa,aj]
        refine zE ?_;simp only[cm];repeat' split
        all_goals first|(exfalso;grind;done)|simp
       have c12':=zN c12;replace H:=And.intro c12 H;refine WpC.region ?_;refine zO 3 ?_;refine zS 25 (λg25=>?_) (λg25=>?_)
       ·try(exfalso;revert g25;simp;done)
        all_goals
         have g25':=zN g25;replace H:=And.intro g25 H;refine zO 3 ?_;refine zS 28 (λg28=>?_) (λg28=>?_)
         ·try(exfalso;revert g28;simp;done)
          all_goals
           have g28':=zN g28;replace H:=And.intro g28 H;refine zO 5 ?_;refine WpO.nil ?_;refine zT ?_;refine zR ?_;refine WpC.ret ?_;try simp only[aa,aj]
           refine zE ?_;simp only[cm];repeat' split
           all_goals first|(exfalso;grind;done)|simp
         ·try(exfalso;revert g28;simp;done)
          all_goals
           have g28':=zN g28;replace H:=And.intro g28 H;refine zO 5 ?_;refine WpO.nil ?_;refine zC (λc12=>?_) (λc12=>?_)
           ·have c12':=zN c12;replace H:=And.intro c12 H;refine zR ?_;refine WpC.ret ?_;try simp only[aa,aj]
            refine zE ?_;simp only[cm];repeat' split
            all_goals first|(exfalso;grind;done)|simp
           have c12':=zN c12;replace H:=And.intro c12 H;refine WpC.skip ?_;refine zR ?_;refine WpC.ret ?_;try simp only[aa,aj]
           refine zE ?_;simp only[cm];repeat' split
           all_goals first|(exfalso;grind;done)|simp
       ·try(exfalso;revert g25;simp;done)
        all_goals
         have g25':=zN g25;replace H:=And.intro g25 H;refine zO 8 ?_;refine WpO.nil ?_;refine zF ?_;refine WpC.skip ?_;refine zR ?_;refine WpC.ret ?_;try simp only[aa,aj]
         refine zE ?_;simp only[cm];repeat' split
         all_goals first|(exfalso;grind;done)|simp
   ·try(exfalso;revert g15;simp;done)
    all_goals
     have g15':=zN g15;replace H:=And.intro g15 H;refine zO 8 ?_;refine WpO.nil ?_;refine zF ?_;refine WpC.region ?_;refine zO 3 ?_;refine zS 25 (λg25=>?_) (λg25=>?_)
     ·try(exfalso;revert g25;simp;done)
      all_goals
       have g25':=zN g25;replace H:=And.intro g25 H;refine zO 3 ?_;refine zS 28 (λg28=>?_) (λg28=>?_)
       ·try(exfalso;revert g28;simp;done)
        all_goals
         have g28':=zN g28;replace H:=And.intro g28 H;refine zO 5 ?_;refine WpO.nil ?_;refine zT ?_;refine zR ?_;refine WpC.ret ?_;try simp only[aa,aj]
         refine zE ?_;simp only[cm];repeat' split
         all_goals first|(exfalso;grind;done)|simp
       ·try(exfalso;revert g28;simp;done)
        all_goals
         have g28':=zN g28;replace H:=And.intro g28 H;refine zO 5 ?_;refine WpO.nil ?_;refine zC (λc12=>?_) (λc12=>?_)
         ·have c12':=zN c12;replace H:=And.intro c12 H;refine zR ?_;refine WpC.ret ?_;try simp only[aa,aj]
          refine zE ?_;simp only[cm];repeat' split
          all_goals first|(exfalso;grind;done)|simp
         have c12':=zN c12;replace H:=And.intro c12 H;refine WpC.skip ?_;refine zR ?_;refine WpC.ret ?_;try simp only[aa,aj]
         refine zE ?_;simp only[cm];repeat' split
         all_goals first|(exfalso;grind;done)|simp
     ·try(exfalso;revert g25;simp;done)
      all_goals
       have g25':=zN g25;replace H:=And.intro g25 H;refine zO 8 ?_;refine WpO.nil ?_;refine zF ?_;refine WpC.skip ?_;refine zR ?_;refine WpC.ret ?_;try simp only[aa,aj]
       refine zE ?_;simp only[cm];repeat' split
       all_goals first|(exfalso;grind;done)|simp
def dJ (a b:Int):Bool:=decide (a=b)&&!decide (a=0)
def D6 (op:List UInt8) (a b:Int):Int:=
 if op==[43] then(if (dJ a b&&(decide (a=1)||decide (a=3)))=true then a else 0)
 else if op==[45] then(if (dJ a b&&(decide (a=1)||decide (a=3)))=true then a else 0)
 else if op==[42] then cm a b
 else if op==[109,105,110] then(if (dJ a b&&!decide (a=4))=true then a else 0)
 else if op==[109,97,120] then(if (dJ a b&&!decide (a=4))=true then a else 0)
 else if op==[61] then(if dJ a b=true then 4 else 0)
 else if op==[60,62] then(if dJ a b=true then 4 else 0)
 else if op==[60] then(if (dJ a b&&!decide (a=4))=true then 4 else 0)
 else if op==[60,61] then(if (dJ a b&&!decide (a=4))=true then 4 else 0)
 else if op==[62] then(if (dJ a b&&!decide (a=4))=true then 4 else 0)
 else if op==[62,61] then(if (dJ a b&&!decide (a=4))=true then 4 else 0)
 else 0
set_option maxHeartbeats 4000000 in
theorem yY (op:List UInt8) (a b:Int):ah Tryz.prog 166 [.d (.str op),.d (dI a),.d (dI b)] (.d (dI (D6 op a b))):=by
 have hp:=wx a b;obtain⟨al,hal⟩:∃v,dJ a b=v:=⟨_,rfl⟩
 obtain⟨pr,hpr⟩:∃v,cm a b=v:=⟨_,rfl⟩
 unfold D6;rw[hal,hpr];rw[hpr] at hp;refine ah.enter tabOk Tryz.func166 rfl (by show 3<=57;decide) ?_
 simp only[Tryz.f166];have H:=trivial;refine zR ?_;refine WpC.seq ?_;refine WpC.val 7 (.d (.bool (al))) ?_ ?_
 ·refine WpC.region ?_;refine zO 4 ?_;refine zS 11 (λg11=>?_) (λg11=>?_)
  ·have g11':=zN g11;replace H:=And.intro g11 H;refine zO 4 ?_;refine WpO.nil ?_;refine⟨rfl,Gh.only 7 9 ?_ (by first|rfl|simp -implicitDefEqProofs[H]) (by rfl)⟩
   simp -implicitDefEqProofs[<-hal,dJ, *]
  have g11':=zN g11;replace H:=And.intro g11 H;refine zO 4 ?_;refine WpO.nil ?_;refine⟨rfl,Gh.only 7 9 ?_ (by first|rfl|simp -implicitDefEqProofs[H]) (by rfl)⟩
  simp -implicitDefEqProofs[<-hal,dJ, *]
 refine WpC.seq ?_;refine zR ?_;refine WpC.block ?_;refine WpC.seq ?_;refine zR ?_;refine zC (λc16=>?_) (λc16=>?_)
 ·have c16':=zN c16;replace H:=And.intro c16 H;refine WpC.skip ?_;refine zT ?_;refine WpC.seq ?_;refine WpC.val 27 (.d (.bool (al&&(decide (a=1)||decide (a=3))))) ?_ ?_
  ·refine WpC.region ?_;refine zO 2 ?_;refine zS 20 (λg20=>?_) (λg20=>?_)
   ·have g20':=zN g20;replace H:=And.intro g20 H;refine zO 3 ?_;refine zS 23 (λg23=>?_) (λg23=>?_)
    ·have g23':=zN g23;replace H:=And.intro g23 H;refine zO 4 ?_;refine WpO.nil ?_;refine⟨rfl,Gh.only 27 11 ?_ (by first|rfl|simp -implicitDefEqProofs[H]) (by rfl)⟩
     simp -implicitDefEqProofs[H,g20',g23']
    have g23':=zN g23;replace H:=And.intro g23 H;refine zO 4 ?_;refine WpO.nil ?_;refine⟨rfl,Gh.only 27 11 ?_ (by first|rfl|simp -implicitDefEqProofs[H]) (by rfl)⟩
    simp -implicitDefEqProofs[H,g20',g23']
   have g20':=zN g20;replace H:=And.intro g20 H;refine zO 7 ?_;refine WpO.nil ?_;refine⟨rfl,Gh.only 27 10 ?_ (by first|rfl|simp -implicitDefEqProofs[H]) (by rfl)⟩
   simp -implicitDefEqProofs[H,g20']
  refine zC (λc27=>?_) (λc27=>?_)
  ·have c27':=zN c27;replace H:=And.intro c27 H;refine zR ?_;refine WpC.ret ?_;try simp only[aa,aj]
   refine zE ?_;clear H;simp_all
  have c27':=zN c27;replace H:=And.intro c27 H;refine WpC.skip ?_;refine zR ?_;refine WpC.ret ?_;try simp only[aa,aj]
  refine zE ?_;clear H;simp_all
 have c16':=zN c16;replace H:=And.intro c16 H;refine zr ?_;refine zC (λc16=>?_) (λc16=>?_)
 ·have c16':=zN c16;replace H:=And.intro c16 H;refine WpC.seq ?_;refine WpC.val 27 (.d (.bool (al&&(decide (a=1)||decide (a=3))))) ?_ ?_
  ·refine WpC.region ?_;refine zO 2 ?_;refine zS 20 (λg20=>?_) (λg20=>?_)
   ·have g20':=zN g20;replace H:=And.intro g20 H;refine zO 3 ?_;refine zS 23 (λg23=>?_) (λg23=>?_)
    ·have g23':=zN g23;replace H:=And.intro g23 H;refine zO 4 ?_;refine WpO.nil ?_;refine⟨rfl,Gh.only 27 11 ?_ (by first|rfl|simp -implicitDefEqProofs[H]) (by rfl)⟩
     simp -implicitDefEqProofs[H,g20',g23']
    have g23':=zN g23;replace H:=And.intro g23 H;refine zO 4 ?_;refine WpO.nil ?_;refine⟨rfl,Gh.only 27 11 ?_ (by first|rfl|simp -implicitDefEqProofs[H]) (by rfl)⟩
    simp -implicitDefEqProofs[H,g20',g23']
   have g20':=zN g20;replace H:=And.intro g20 H;refine zO 7 ?_;refine WpO.nil ?_;refine⟨rfl,Gh.only 27 10 ?_ (by first|rfl|simp -implicitDefEqProofs[H]) (by rfl)⟩
   simp -implicitDefEqProofs[H,g20']
  refine zC (λc27=>?_) (λc27=>?_)
  ·have c27':=zN c27;replace H:=And.intro c27 H;refine zR ?_;refine WpC.ret ?_;try simp only[aa,aj]
   refine zE ?_;clear H;simp_all
  have c27':=zN c27;replace H:=And.intro c27 H;refine WpC.skip ?_;refine zR ?_;refine WpC.ret ?_;try simp only[aa,aj]
  refine zE ?_;clear H;simp_all
 have c16':=zN c16;replace H:=And.intro c16 H;refine zR ?_;refine zC (λc29=>?_) (λc29=>?_)
 ·have c29':=zN c29;replace H:=And.intro c29 H;refine WpC.seq ?_;refine WpC.region ?_;refine zO 2 ?_;refine zG x8 (hp) ?_;refine zO 1 ?_;refine WpO.nil ?_;refine WpC.ret ?_;try simp only[aa,aj]
  refine zE ?_;clear H;simp_all
 have c29':=zN c29;replace H:=And.intro c29 H;refine WpC.seq ?_;refine zR ?_;refine zC (λc34=>?_) (λc34=>?_)
 ·have c34':=zN c34;replace H:=And.intro c34 H;refine WpC.skip ?_;refine zT ?_;refine WpC.seq ?_;refine WpC.val 41 (.d (.bool (al&&!decide (a=4)))) ?_ ?_
  ·refine WpC.region ?_;refine zO 2 ?_;refine zS 38 (λg38=>?_) (λg38=>?_)
   ·have g38':=zN g38;replace H:=And.intro g38 H;refine zO 3 ?_;refine WpO.nil ?_;refine⟨rfl,Gh.only 41 6 ?_ (by first|rfl|simp -implicitDefEqProofs[H]) (by rfl)⟩
    simp -implicitDefEqProofs[H,g38']
   have g38':=zN g38;replace H:=And.intro g38 H;refine zO 3 ?_;refine WpO.nil ?_;refine⟨rfl,Gh.only 41 6 ?_ (by first|rfl|simp -implicitDefEqProofs[H]) (by rfl)⟩
   simp -implicitDefEqProofs[H,g38']
  refine zC (λc41=>?_) (λc41=>?_)
  ·have c41':=zN c41;replace H:=And.intro c41 H;refine zR ?_;refine WpC.ret ?_;try simp only[aa,aj]
   refine zE ?_;clear H;simp_all
  have c41':=zN c41;replace H:=And.intro c41 H;refine WpC.skip ?_;refine zR ?_;refine WpC.ret ?_;try simp only[aa,aj]
  refine zE ?_;clear H;simp_all
 have c34':=zN c34;replace H:=And.intro c34 H;refine zr ?_;refine zC (λc34=>?_) (λc34=>?_)
 ·have c34':=zN c34;replace H:=And.intro c34 H;refine WpC.seq ?_;refine WpC.val 41 (.d (.bool (al&&!decide (a=4)))) ?_ ?_
  ·refine WpC.region ?_;refine zO 2 ?_;refine zS 38 (λg38=>?_) (λg38=>?_)
   ·have g38':=zN g38;replace H:=And.intro g38 H;refine zO 3 ?_;refine WpO.nil ?_;refine⟨rfl,Gh.only 41 6 ?_ (by first|rfl|simp -implicitDefEqProofs[H]) (by rfl)⟩
    simp -implicitDefEqProofs[H,g38']
   have g38':=zN g38;replace H:=And.intro g38 H;refine zO 3 ?_;refine WpO.nil ?_;refine⟨rfl,Gh.only 41 6 ?_ (by first|rfl|simp -implicitDefEqProofs[H]) (by rfl)⟩
   simp -implicitDefEqProofs[H,g38']
  refine zC (λc41=>?_) (λc41=>?_)
  ·have c41':=zN c41;replace H:=And.intro c41 H;refine zR ?_;refine WpC.ret ?_;try simp only[aa,aj]
   refine zE ?_;clear H;simp_all
  have c41':=zN c41;replace H:=And.intro c41 H;refine WpC.skip ?_;refine zR ?_;refine WpC.ret ?_;try simp only[aa,aj]
  refine zE ?_;clear H;simp_all
 have c34':=zN c34;replace H:=And.intro c34 H;refine WpC.seq ?_;refine zR ?_;refine zC (λc43=>?_) (λc43=>?_)
 ·have c43':=zN c43;replace H:=And.intro c43 H;refine WpC.skip ?_;refine zT ?_;refine zR ?_;refine zC (λc46=>?_) (λc46=>?_)
  ·have c46':=zN c46;replace H:=And.intro c46 H;refine zR ?_;refine WpC.ret ?_;try simp only[aa,aj]
   refine zE ?_;clear H;simp_all
  have c46':=zN c46;replace H:=And.intro c46 H;refine WpC.skip ?_;refine zR ?_;refine WpC.ret ?_;try simp only[aa,aj]
  refine zE ?_;clear H;simp_all
 have c43':=zN c43;replace H:=And.intro c43 H;refine zr ?_;refine zC (λc43=>?_) (λc43=>?_)
 ·have c43':=zN c43;replace H:=And.intro c43 H;refine zR ?_;refine zC (λc46=>?_) (λc46=>?_)
  ·have c46':=zN c46;replace H:=And.intro c46 H;refine zR ?_;refine WpC.ret ?_;try simp only[aa,aj]
   refine zE ?_;clear H;simp_all
  have c46':=zN c46;replace H:=And.intro c46 H;refine WpC.skip ?_;refine zR ?_;refine WpC.ret ?_;try simp only[aa,aj]
  refine zE ?_;clear H;simp_all
 have c43':=zN c43;replace H:=And.intro c43 H;refine WpC.seq ?_;refine zR ?_;refine zC (λc47=>?_) (λc47=>?_)
 ·have c47':=zN c47;replace H:=And.intro c47 H;refine WpC.skip ?_;refine zT ?_;refine WpC.seq ?_;refine WpC.val 56 (.d (.bool (al&&!decide (a=4)))) ?_ ?_
  ·refine WpC.region ?_;refine zO 2 ?_;refine zS 53 (λg53=>?_) (λg53=>?_)
   ·have g53':=zN g53;replace H:=And.intro g53 H;refine zO 3 ?_;refine WpO.nil ?_;refine⟨rfl,Gh.only 56 6 ?_ (by first|rfl|simp -implicitDefEqProofs[H]) (by rfl)⟩
    simp -implicitDefEqProofs[H,g53']
   have g53':=zN g53;replace H:=And.intro g53 H;refine zO 3 ?_;refine WpO.nil ?_;refine⟨rfl,Gh.only 56 6 ?_ (by first|rfl|simp -implicitDefEqProofs[H]) (by rfl)⟩
   simp -implicitDefEqProofs[H,g53']
  refine zC (λc56=>?_) (λc56=>?_)
  ·have c56':=zN c56;replace H:=And.intro c56 H;refine zR ?_;refine WpC.ret ?_;try simp only[aa,aj]
   refine zE ?_;clear H;simp_all
  have c56':=zN c56;replace H:=And.intro c56 H;refine WpC.skip ?_;refine zR ?_;refine WpC.ret ?_;try simp only[aa,aj]
  refine zE ?_;clear H;simp_all
 have c47':=zN c47;replace H:=And.intro c47 H;refine zR ?_;refine zC (λc47=>?_) (λc47=>?_)
 ·have c47':=zN c47;replace H:=And.intro c47 H;refine WpC.skip ?_;refine zT ?_;refine WpC.seq ?_;refine WpC.val 56 (.d (.bool (al&&!decide (a=4)))) ?_ ?_
  ·refine WpC.region ?_;refine zO 2 ?_;refine zS 53 (λg53=>?_) (λg53=>?_)
   ·have g53':=zN g53;replace H:=And.intro g53 H;refine zO 3 ?_;refine WpO.nil ?_;refine⟨rfl,Gh.only 56 6 ?_ (by first|rfl|simp -implicitDefEqProofs[H]) (by rfl)⟩
    simp -implicitDefEqProofs[H,g53']
   have g53':=zN g53;replace H:=And.intro g53 H;refine zO 3 ?_;refine WpO.nil ?_;refine⟨rfl,Gh.only 56 6 ?_ (by first|rfl|simp -implicitDefEqProofs[H]) (by rfl)⟩
   simp -implicitDefEqProofs[H,g53']
  refine zC (λc56=>?_) (λc56=>?_)
  ·have c56':=zN c56;replace H:=And.intro c56 H;refine zR ?_;refine WpC.ret ?_;try simp only[aa,aj]
   refine zE ?_;clear H;simp_all
  have c56':=zN c56;replace H:=And.intro c56 H;refine WpC.skip ?_;refine zR ?_;refine WpC.ret ?_;try simp only[aa,aj]
  refine zE ?_;clear H;simp_all
 have c47':=zN c47;replace H:=And.intro c47 H;refine zR ?_;refine zC (λc47=>?_) (λc47=>?_)
 ·have c47':=zN c47;replace H:=And.intro c47 H;refine WpC.skip ?_;refine zT ?_;refine WpC.seq ?_;refine WpC.val 56 (.d (.bool (al&&!decide (a=4)))) ?_ ?_
  ·refine WpC.region ?_;refine zO 2 ?_;refine zS 53 (λg53=>?_) (λg53=>?_)
   ·have g53':=zN g53;replace H:=And.intro g53 H;refine zO 3 ?_;refine WpO.nil ?_;refine⟨rfl,Gh.only 56 6 ?_ (by first|rfl|simp -implicitDefEqProofs[H]) (by rfl)⟩
    simp -implicitDefEqProofs[H,g53']
   have g53':=zN g53;replace H:=And.intro g53 H;refine zO 3 ?_;refine WpO.nil ?_;refine⟨rfl,Gh.only 56 6 ?_ (by first|rfl|simp -implicitDefEqProofs[H]) (by rfl)⟩
   simp -implicitDefEqProofs[H,g53']
  refine zC (λc56=>?_) (λc56=>?_)
  ·have c56':=zN c56;replace H:=And.intro c56 H;refine zR ?_;refine WpC.ret ?_;try simp only[aa,aj]
   refine zE ?_;clear H;simp_all
  have c56':=zN c56;replace H:=And.intro c56 H;refine WpC.skip ?_;refine zR ?_;refine WpC.ret ?_;try simp only[aa,aj]
  refine zE ?_;clear H;simp_all
 have c47':=zN c47;replace H:=And.intro c47 H;refine zr ?_;refine zC (λc47=>?_) (λc47=>?_)
 ·have c47':=zN c47;replace H:=And.intro c47 H;refine WpC.seq ?_;refine WpC.val 56 (.d (.bool (al&&!decide (a=4)))) ?_ ?_
  ·refine WpC.region ?_;refine zO 2 ?_;refine zS 53 (λg53=>?_) (λg53=>?_)
   ·have g53':=zN g53;replace H:=And.intro g53 H;refine zO 3 ?_;refine WpO.nil ?_;refine⟨rfl,Gh.only 56 6 ?_ (by first|rfl|simp -implicitDefEqProofs[H]) (by rfl)⟩
    simp -implicitDefEqProofs[H,g53']
   have g53':=zN g53;replace H:=And.intro g53 H;refine zO 3 ?_;refine WpO.nil ?_;refine⟨rfl,Gh.only 56 6 ?_ (by first|rfl|simp -implicitDefEqProofs[H]) (by rfl)⟩
   simp -implicitDefEqProofs[H,g53']
  refine zC (λc56=>?_) (λc56=>?_)
  ·have c56':=zN c56;replace H:=And.intro c56 H;refine zR ?_;refine WpC.ret ?_;try simp only[aa,aj]
   refine zE ?_;clear H;simp_all
  have c56':=zN c56;replace H:=And.intro c56 H;refine WpC.skip ?_;refine zR ?_;refine WpC.ret ?_;try simp only[aa,aj]
  refine zE ?_;clear H;simp_all
 have c47':=zN c47;replace H:=And.intro c47 H;refine WpC.skip ?_;refine zR ?_;refine WpC.ret ?_;try simp only[aa,aj]
 refine zE ?_;clear H;simp_all
end Go.Proofs.YtlhmejigmokbhaaGreatDoor.Pay
