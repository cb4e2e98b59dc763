/- The texts RsB, one behind the other. No statement of the seed is proved here. -/
import Derived.Test.YtlhmejigmokbhaaGreatDoorMgX
namespace Go.Proofs.YtlhmejigmokbhaaGreatDoor.Pay
open Go Go.RowKit
set_option linter.unusedVariables false
set_option linter.unusedSimpArgs false
structure Fd where
 rate:Int
 emp:Int
 ceil:Int
 deriving DecidableEq,Inhabited
@[reducible] def Fd.cs (p:Fd):List D:=[dI p.rate,dI p.emp,dI p.ceil]
@[reducible] def Fd.enc (p:Fd):D:= .agg p.cs
@[reducible] def eF (l:List Fd):D:= .list 3 (l.map Fd.enc)
def fc (x:Fd):Bool:=!cG x.rate||!cG x.emp||decide (x.ceil<0)
theorem xy (x:Fd):ah Tryz.prog 43 [.d x.enc] (.d (.bool (fc x))):=by
 refine ah.enter tabOk Tryz.func43 rfl (by show 1<=18;decide) ?_
 simp only[Tryz.f43];have H:=trivial;refine zR ?_;refine WpC.seq ?_;refine WpC.val 2 (.d (.bool (fc x))) ?_ ?_
 ·refine WpC.region ?_;refine zO 2 ?_;refine zG cr (dQ x.rate) ?_;refine zO 2 ?_;refine zS 7 (λg7=>?_) (λg7=>?_)
  ·have g7':=zN g7;replace H:=And.intro g7 H;refine zO 11 ?_;refine WpO.nil ?_;refine⟨rfl,Gh.only 2 17 ?_ (by first|rfl|simp -implicitDefEqProofs[H]) (by rfl)⟩
   simp -implicitDefEqProofs[H,g7',fc]
  have g7':=zN g7;replace H:=And.intro g7 H;refine zO 2 ?_;refine zG cr (dQ x.emp) ?_;refine zO 3 ?_;refine zS 13 (λg13=>?_) (λg13=>?_)
  ·have g13':=zN g13;replace H:=And.intro g13 H;refine zO 5 ?_;refine WpO.nil ?_;refine⟨rfl,Gh.only 2 18 ?_ (by first|rfl|simp -implicitDefEqProofs[H]) (by rfl)⟩
   simp -implicitDefEqProofs[H,g7',g13',fc]
  have g13':=zN g13;replace H:=And.intro g13 H;refine zO 5 ?_;refine WpO.nil ?_;refine⟨rfl,Gh.only 2 18 ?_ (by first|rfl|simp -implicitDefEqProofs[H]) (by rfl)⟩
  simp -implicitDefEqProofs[H,g7',g13',fc]
 refine WpC.ret ?_;try simp only[aa,aj]
 refine zE ?_;simp -implicitDefEqProofs[H]
def bE (n:Int):Bool:=decide (1125899906842624<n)||decide (n< -1125899906842624)
theorem BH (n:Int):ah Tryz.prog 70 [.d (dI n)] (.d (.bool (bE n))):=by
 refine ah.enter tabOk Tryz.func70 rfl (by show 1<=9;decide) ?_
 simp only[Tryz.f70];have H:=trivial;refine zR ?_;refine WpC.seq ?_;refine WpC.val 2 (.d (.bool (bE n))) ?_ ?_
 ·refine WpC.region ?_;refine zO 3 ?_;refine zS 5 (λg5=>?_) (λg5=>?_)
  ·have g5':=zN g5;replace H:=And.intro g5 H;refine zO 4 ?_;refine WpO.nil ?_;refine⟨rfl,Gh.only 2 8 ?_ (by first|rfl|simp -implicitDefEqProofs[H]) (by rfl)⟩
   simp -implicitDefEqProofs[H,g5',bE]
  have g5':=zN g5;replace H:=And.intro g5 H;refine zO 4 ?_;refine WpO.nil ?_;refine⟨rfl,Gh.only 2 8 ?_ (by first|rfl|simp -implicitDefEqProofs[H]) (by rfl)⟩
  simp -implicitDefEqProofs[H,g5',bE]
 refine WpC.ret ?_;try simp only[aa,aj]
 refine zE ?_;simp -implicitDefEqProofs[H]
theorem rS (l:List Fd) (hl:l.length<=1000000000):ah Tryz.prog 64 [.d (eF l),.fn 43 []] (.d (dI (bZ fc l))):=by
 refine ah.enter tabOk Tryz.func64 rfl (by show 2<=19;decide) ?_
 simp only[Tryz.f64];have H:=trivial;refine zR ?_;refine WpC.seq ?_;refine zR ?_;refine WpC.block ?_;refine WpC.loopK [0,1,7] [8] (l.length) (():Unit) (λk _=>[(8,.d (.int .i64 k))]) (λk _=>[]) (λk _=>(l.take k).any fc=false) (by simp -implicitDefEqProofs[H]<;>rfl) (Gh.cut' [8,0,1,7] 0 (by simp -implicitDefEqProofs[H]) (by simp -implicitDefEqProofs[H]) rfl (by simp) (by simp) (by simp)) (by simp) ?_
 rintro k ⟨⟩ hk hi;simp only[List.cons_append,List.nil_append];refine zR ?_;refine WpC.seq (zL (k<l.length) (λhlt=>?_) (λhge=>?_))
 ·refine WpC.skip ?_;have hst:=cf fc hlt;obtain⟨x,hx⟩:∃x,l[k]=x:=⟨_,rfl⟩
  have hw:IntKind.i64.wrap ((k:Int)+1)=k+1:=am (by omega) (by omega)
  have hfi:=cF fc hlt hi;rw[hi,hx] at hst;rw[hx] at hfi;have hck:=xy x;replace H:=And.intro hlt (And.intro hx (And.intro hw H));refine WpC.seq ?_;refine WpC.block ?_;refine zR ?_;refine WpC.seq ?_;refine WpC.region ?_;refine zO 5 ?_;refine zG Cy (hck) ?_;refine WpO.nil ?_;refine zC (λc16=>?_) (λc16=>?_)
  ·have c16':=zN c16;replace H:=And.intro c16 H;refine zR ?_;refine WpC.ret ?_;try simp only[aa,aj]
   refine zE ?_;have:=hfi (by simpa using c16)
   simp[bZ,this]
  have c16':=zN c16;replace H:=And.intro c16 H;refine WpC.skip ?_;refine zr ?_;exact⟨hlt,(),by rw[hst];simpa using c16,Gh.cut' [8,0,1,7] 0 (by simp -implicitDefEqProofs[H,c16']) (by simp) rfl (by simp) (by simp) (by simp)⟩
 refine WpC.exit ?_;have hkn:k=l.length:=by omega
 subst hkn;rw[List.take_of_length_le (Nat.le_refl _)] at hi;refine zR ?_;refine WpC.ret ?_;try simp only[aa,aj]
 refine zE ?_;have:l.findIdx? fc=none:=by rw[List.findIdx?_eq_none_iff];simpa using hi
 simp[bZ,this]
theorem qx (l:List Int) (hl:l.length<=1000000000):ah Tryz.prog 96 [.d (.list 1 (l.map dI)),.fn 70 []] (.d (dI (bZ bE l))):=by
 refine ah.enter tabOk Tryz.func96 rfl (by show 2<=19;decide) ?_
 simp only[Tryz.f96];have H:=trivial;refine zR ?_;refine WpC.seq ?_;refine zR ?_;refine WpC.block ?_;refine WpC.loopK [0,1,7] [8] (l.length) (():Unit) (λk _=>[(8,.d (.int .i64 k))]) (λk _=>[]) (λk _=>(l.take k).any bE=false) (by simp -implicitDefEqProofs[H]<;>rfl) (Gh.cut' [8,0,1,7] 0 (by simp -implicitDefEqProofs[H]) (by simp -implicitDefEqProofs[H]) rfl (by simp) (by simp) (by simp)) (by simp) ?_
 rintro k ⟨⟩ hk hi;simp only[List.cons_append,List.nil_append];refine zR ?_;refine WpC.seq (zL (k<l.length) (λhlt=>?_) (λhge=>?_))
 ·refine WpC.skip ?_;have hst:=cf bE hlt;obtain⟨x,hx⟩:∃x,l[k]=x:=⟨_,rfl⟩
  have hw:IntKind.i64.wrap ((k:Int)+1)=k+1:=am (by omega) (by omega)
  have hfi:=cF bE hlt hi;rw[hi,hx] at hst;rw[hx] at hfi;have hck:=BH x;replace H:=And.intro hlt (And.intro hx (And.intro hw H));refine WpC.seq ?_;refine WpC.block ?_;refine zR ?_;refine WpC.seq ?_;refine WpC.region ?_;refine zO 5 ?_;refine zG Cl (hck) ?_;refine WpO.nil ?_;refine zC (λc16=>?_) (λc16=>?_)
  ·have c16':=zN c16;replace H:=And.intro c16 H;refine zR ?_;refine WpC.ret ?_;try simp only[aa,aj]
   refine zE ?_;have:=hfi (by simpa using c16)
   simp[bZ,this]
  have c16':=zN c16;replace H:=And.intro c16 H;refine WpC.skip ?_;refine zr ?_;exact⟨hlt,(),by rw[hst];simpa using c16,Gh.cut' [8,0,1,7] 0 (by simp -implicitDefEqProofs[H,c16']) (by simp) rfl (by simp) (by simp) (by simp)⟩
 refine WpC.exit ?_;have hkn:k=l.length:=by omega
 subst hkn;rw[List.take_of_length_le (Nat.le_refl _)] at hi;refine zR ?_;refine WpC.ret ?_;try simp only[aa,aj]
 refine zE ?_;have:l.findIdx? bE=none:=by rw[List.findIdx?_eq_none_iff];simpa using hi
 simp[bZ,this]
theorem ni (l:List Fd) (hl:l.length<=1000000000):ah Tryz.prog 42 [.d (eF l),.fn 43 []] (.d (.bool (l.any fc))):=by
 refine ah.enter tabOk Tryz.func42 rfl (by show 2<=9;decide) ?_
 simp only[Tryz.f42];have H:=trivial;refine zR ?_;refine WpC.seq ?_;refine WpC.region ?_;refine zO 2 ?_;refine zG Co (rS l hl) ?_;refine zO 2 ?_;refine WpO.nil ?_;refine WpC.ret ?_;try simp only[aa,aj]
 refine zE ?_;simp[<-dS]
theorem mC (l:List Int) (hl:l.length<=1000000000):ah Tryz.prog 69 [.d (.list 1 (l.map dI)),.fn 70 []] (.d (.bool (l.any bE))):=by
 refine ah.enter tabOk Tryz.func69 rfl (by show 2<=9;decide) ?_
 simp only[Tryz.f69];have H:=trivial;refine zR ?_;refine WpC.seq ?_;refine WpC.region ?_;refine zO 2 ?_;refine zG ph (qx l hl) ?_;refine zO 2 ?_;refine WpO.nil ?_;refine WpC.ret ?_;try simp only[aa,aj]
 refine zE ?_;simp[<-dS]
def dZ (rows:List Rw) (funds:List Fd):Bool:=gv rows&&decide (funds.length<=6)&&!funds.any fc
@[reducible] def fy (rows:List Rw) (funds:List Fd):D:= .agg [iG rows,eF funds]
theorem eV (rows:List Rw) (funds:List Fd) (hr:rows.length<=1000000000) (hf:funds.length<=1000000000):ah Tryz.prog 19 [.d (fy rows funds)] (.d (.bool (dZ rows funds))):=by
 have h1:=tV rows hr;have h2:=ni funds hf;obtain⟨b1,e1⟩:∃b,gv rows=b:=⟨_,rfl⟩
 obtain⟨b2,e2⟩:∃b,funds.any fc=b:=⟨_,rfl⟩
 have e3:decide ((funds.length:Int)<=6)=decide (funds.length<=6):=decide_eq_decide.2 (by omega)
 rw[dZ,e1,e2];rw[e1] at h1;rw[e2] at h2;refine ah.enter tabOk Tryz.func19 rfl (by show 1<=18;decide) ?_
 simp only[Tryz.f19];have H:=e3;refine zR ?_;refine WpC.seq ?_;refine WpC.val 2 (.d (.bool (b1&&decide (funds.length<=6)&&!b2))) ?_ ?_
 ·refine WpC.region ?_;refine zO 2 ?_;refine zG tR (h1) ?_;refine zO 1 ?_;refine zS 6 (λg6=>?_) (λg6=>?_)
  ·have g6':=zN g6;replace H:=And.intro g6 H;refine zO 6 ?_;refine zS 12 (λg12=>?_) (λg12=>?_)
   ·have g12':=zN g12;replace H:=And.intro g12 H;refine zO 2 ?_;refine zG Cz (h2) ?_;refine zO 3 ?_;refine WpO.nil ?_;refine⟨rfl,Gh.only 2 18 ?_ (by first|rfl|simp -implicitDefEqProofs[H]) (by rfl)⟩
    simp -implicitDefEqProofs[H,g6',g12']
   have g12':=zN g12;replace H:=And.intro g12 H;refine zO 6 ?_;refine WpO.nil ?_;refine⟨rfl,Gh.only 2 18 ?_ (by first|rfl|simp -implicitDefEqProofs[H]) (by rfl)⟩
   simp -implicitDefEqProofs[H,g6',g12']
  have g6':=zN g6;replace H:=And.intro g6 H;refine zO 12 ?_;refine WpO.nil ?_;refine⟨rfl,Gh.only 2 17 ?_ (by first|rfl|simp -implicitDefEqProofs[H]) (by rfl)⟩
  simp -implicitDefEqProofs[H,g6']
 refine WpC.ret ?_;try simp only[aa,aj]
 refine zE ?_;simp -implicitDefEqProofs[H]
theorem kw (l:List Int) (hl:l.length<=1000000000):ah Tryz.prog 46 [.d (.list 1 (l.map dI))] (.d (.bool (l.any bE))):=by
 refine ah.enter tabOk Tryz.func46 rfl (by show 1<=5;decide) ?_
 simp only[Tryz.f46];have H:=trivial;refine zR ?_;refine WpC.seq ?_;refine WpC.region ?_;refine zO 1 ?_;refine zG lu (mC l hl) ?_;refine zO 1 ?_;refine WpO.nil ?_;refine WpC.ret ?_;try simp only[aa,aj]
 refine zE ?_;simp -implicitDefEqProofs[H]
structure Yr where
 taxable:Int
 base:Int
 tax:Int
 paid:List Int
 owed:List Int
@[reducible] def Yr.cs (y:Yr):List D:=[dI y.taxable,dI y.base,dI y.tax,.list 1 (y.paid.map dI),.list 1 (y.owed.map dI)]
@[reducible] def Yr.enc (y:Yr):D:= .agg y.cs
def av:Yr:=⟨0,0,0,[],[]⟩
def dW (base ceil:Int):Int:=min (max base 0) ceil
def bP (rows:List Rw) (funds:List Fd) (taxable base:Int):Yr:=⟨taxable,base,rD rows taxable,funds.map λf=>dW base f.ceil*f.rate/10000,funds.map λf=>dW base f.ceil*f.emp/10000⟩
theorem cQ {rows:List Rw} {funds:List Fd} (h:dZ rows funds=true):gv rows=true/\funds.length<=6/\∀f∈funds,0<=f.rate/\f.rate<=10000/\0<=f.emp/\f.emp<=10000/\0<=f.ceil:=by
 simp only[dZ,Bool.and_eq_true,decide_eq_true_eq,Bool.not_eq_true',List.any_eq_false] at h;obtain⟨⟨h1,h2⟩,h3⟩:=h;refine⟨h1,h2,λf hf=>?_⟩
 have:=h3 f hf;simp[fc,cG] at this;omega
theorem o_ {base r ceil:Int} (h0:0<=r) (h1:r<=10000) (hb:base<=1125899906842624) (hc:0<=ceil):0<=dW base ceil/\dW base ceil<=1125899906842624/\0<=dW base ceil*r/10000/\dW base ceil*r/10000<=1125899906842624:=by
 have h2:0<=dW base ceil/\dW base ceil<=1125899906842624:=by unfold dW;omega
 have h4:dW base ceil*r<=dW base ceil*10000:=Int.mul_le_mul_of_nonneg_left h1 h2.1;have h5:0<=dW base ceil*r:=Int.mul_nonneg h2.1 h0;omega
theorem FD (rows:List Rw) (funds:List Fd) (taxable base:Int) (hs:dZ rows funds=true) (hf:(bE taxable||bE base)=true):
 ah Tryz.prog 47 [.d (fy rows funds),.d (dI taxable),.d (dI base)] (.tup [.d av.enc,.d (dI 3)]):=by
 have hff:=cQ hs;have hbf:=bM hff.1;have h1:=eV rows funds (by omega) (by omega)
 rw[hs] at h1;have h2:=kw [taxable,base] (by simp)
 rw[show [taxable,base].any bE=true from by simpa using hf] at h2
 refine ah.enter tabOk Tryz.func47 rfl (by show 3<=78;decide) ?_
 simp only[Tryz.f47];have H:=trivial;refine qR (by simp -implicitDefEqProofs[av,H]<;>rfl) ?_
 refine WpC.seq ?_;refine WpC.block ?_;refine WpC.seq ?_;refine WpC.region ?_;refine WpO.run tabOk 1 (by simp -implicitDefEqProofs[av,H]<;>first|exact⟨rfl,rfl⟩|rfl) ?_
 refine WpO.data (by simp) rfl (by simp -implicitDefEqProofs[av,H]<;>rfl) (by simp -implicitDefEqProofs[av,H]<;>rfl) (by simp -implicitDefEqProofs[av,H]<;>rfl) fh (by simp) (h1) (by rfl) (by simp -implicitDefEqProofs[av,H]<;>rfl) ?_
 refine WpO.run tabOk 2 (by simp -implicitDefEqProofs[av,H]<;>first|exact⟨rfl,rfl⟩|rfl) ?_
 refine WpO.nil ?_;refine WpC.condF (by simp -implicitDefEqProofs[av,H]<;>rfl) ?_
 refine WpC.seq ?_;refine WpC.region ?_;refine WpO.run tabOk 3 (by simp -implicitDefEqProofs[av,H]<;>first|exact⟨rfl,rfl⟩|rfl) ?_
 refine WpO.lend (by simp) rfl (by simp -implicitDefEqProofs[av,H]<;>rfl) (by simp -implicitDefEqProofs[av,H]<;>rfl) (by simp -implicitDefEqProofs[av,H]<;>rfl) iy (h2) (by rfl) (by simp -implicitDefEqProofs[av,H]<;>rfl) ?_
 refine WpO.run tabOk 1 (by simp -implicitDefEqProofs[av,H]<;>first|exact⟨rfl,rfl⟩|rfl) ?_
 refine WpO.nil ?_;refine WpC.condT (by simp -implicitDefEqProofs[av,H]<;>rfl) ?_
 refine qR (by simp -implicitDefEqProofs[av,H]<;>rfl) ?_
 refine WpC.ret ?_;try simp only[aa,aj]
 refine dB (by simp -implicitDefEqProofs[av,H]<;>rfl) (by simp -implicitDefEqProofs[av,H]<;>rfl) ?_
 simp -implicitDefEqProofs[av,H]
set_option maxHeartbeats 4000000 in
theorem xQ (rows:List Rw) (funds:List Fd) (taxable base:Int) (hs:dZ rows funds=true) (hf:(bE taxable||bE base)=false):
 ah Tryz.prog 47 [.d (fy rows funds),.d (dI taxable),.d (dI base)] (.tup [.d (bP rows funds taxable base).enc,.d (dI 0)]):=by
 have hff:=cQ hs;have hbf:=bM hff.1;have h1:=eV rows funds (by omega) (by omega)
 rw[hs] at h1;have h2:=kw [taxable,base] (by simp)
 rw[show [taxable,base].any bE=false from by simpa using hf] at h2
 have hrg:(-1125899906842624<=taxable/\taxable<=1125899906842624)/\ -1125899906842624<=base/\base<=1125899906842624:=by
  simp[bE] at hf;omega
 have h3:=E4 rows taxable hff.1 hrg.1.1 hrg.1.2;obtain⟨T,hT⟩:∃T,rD rows taxable=T:=⟨_,rfl⟩
 rw[hT] at h3;obtain⟨fp,hfp⟩:∃f:Fd->Int,(λf:Fd=>dW base f.ceil*f.rate/10000)=f:=⟨_,rfl⟩
 obtain⟨fo,hfo⟩:∃f:Fd->Int,(λf:Fd=>dW base f.ceil*f.emp/10000)=f:=⟨_,rfl⟩
 have hfp1:∀f:Fd,fp f=dW base f.ceil*f.rate/10000:=λf=>by rw[<-hfp]
 have hfo1:∀f:Fd,fo f=dW base f.ceil*f.emp/10000:=λf=>by rw[<-hfo]
 have hdue:bP rows funds taxable base=⟨taxable,base,T,funds.map fp,funds.map fo⟩:=by unfold bP;rw[hT,hfp,hfo]
 rw[hdue];refine ah.enter tabOk Tryz.func47 rfl (by show 3<=78;decide) ?_
 simp only[Tryz.f47];have H:=trivial;refine zR ?_;refine WpC.seq ?_;refine WpC.block ?_;refine WpC.seq ?_;refine WpC.region ?_;refine zO 1 ?_;refine zG fh (h1) ?_;refine zO 2 ?_;refine WpO.nil ?_;refine zF ?_;refine WpC.seq ?_;refine WpC.region ?_;refine zO 3 ?_;refine zB iy (h2) ?_;refine zO 1 ?_;refine WpO.nil ?_;refine zF ?_;refine WpC.skip ?_;refine zR ?_;refine WpC.seq ?_;refine WpC.region ?_;refine zO 3 ?_;refine zG Ck (h3) ?_;refine zO 5 ?_;refine WpO.nil ?_;refine WpC.seq ?_;refine WpC.gh (Gh.nilCell (id:=3) (off:=3) 3 1 (by rfl) (by rfl) (by simp)) ?_
 simp;refine WpC.gh (Gh.nilCell (id:=3) (off:=4) 3 1 (by rfl) (by rfl) (by simp)) ?_
 simp;refine zR ?_;refine WpC.block ?_;refine WpC.loopK [2,6,8,39,40] [41] (funds.length) (():Unit) (λk _=>[(41,.d (.int .i64 k))]) (λk _=>[.cells 25 [.d (iG rows),.d (eF funds)],.cells 32 [.d (dI 0),.d (dI 0),.d (dI 0),.d .nil,.d .nil],.arr 3 1 [dI taxable,dI base],.cells 32 [.d (dI taxable),.d (dI base),.d (dI T),.sl 4 k,.sl 5 k],.arr 3 1 (((funds.take k).map fp).map dI),.arr 3 1 (((funds.take k).map fo).map dI)]) (λk _=>True) (by simp -implicitDefEqProofs[H]<;>rfl) (Gh.cut' [41,2,6,8,39,40] 6 (by simp -implicitDefEqProofs[H]) (by simp -implicitDefEqProofs[H]) rfl (by simp) (by simp) (by simp)) (by simp) ?_
 rintro k ⟨⟩ hk hi;simp only[List.cons_append,List.nil_append];refine zR ?_;refine WpC.seq (zL (k<funds.length) (λhlt=>?_) (λhge=>?_))
 ·refine WpC.skip ?_;have hkl:k<funds.length:=by omega
  obtain⟨p,hp⟩:∃p,funds[k]=p:=⟨_,rfl⟩
  have hpf:=hff.2.2 p (hp▸List.getElem_mem hkl);have hw:IntKind.i64.wrap ((k:Int)+1)=k+1:=am (by omega) (by omega)
  have htk:funds.take (k+1)=funds.take k++[p]:=by rw[List.take_add_one,List.getElem?_eq_getElem hkl,hp];rfl
  have hmk:min k funds.length=k:=by omega
  have hk8:k<=8589934591:=by omega
  have hc1:=o_ (base:=base) hpf.1 hpf.2.1 hrg.2.2 hpf.2.2.2.2;have hc2:=o_ (base:=base) hpf.2.2.1 hpf.2.2.2.1 hrg.2.2 hpf.2.2.2.2;obtain⟨z,hz⟩:∃z:Nat,dW base p.ceil=z:=⟨(dW base p.ceil).toNat,by omega⟩
  obtain⟨r,hr⟩:∃z:Nat,p.rate=z:=⟨p.rate.toNat,by omega⟩
  obtain⟨e,he⟩:∃z:Nat,p.emp=z:=⟨p.emp.toNat,by omega⟩
  have ho1:=kb z r (by omega) (by omega)
  have ho2:=kb z e (by omega) (by omega)
  have hq1:=hfp1 p;have hq2:=hfo1 p;rw[hz,hr,<-Int.natCast_mul] at hq1;rw[hz,he,<-Int.natCast_mul] at hq2;have hq1':((z*r/10000:Nat):Int)=fp p:=by rw[hq1];omega
  have hq2':((z*e/10000:Nat):Int)=fo p:=by rw[hq2];omega
  rw[hq1'] at ho1;rw[hq2'] at ho2;have hzc:min (max base 0) p.ceil=(z:Int):=hz;replace H:=And.intro hlt (And.intro hkl (And.intro hp (And.intro hw (And.intro hmk (And.intro hk8 (And.intro hzc (And.intro hr (And.intro he H))))))));refine WpC.seq ?_;refine WpC.block ?_;iterate 2 refine zR ?_
  refine WpC.seq ?_;refine WpC.region ?_;refine zO 3 ?_;refine zG pi (ho1) ?_;refine zO 5 ?_;refine WpO.nil ?_;refine WpC.seq ?_;refine WpC.region ?_;refine zO 3 ?_;refine zG pi (ho2) ?_;refine zO 5 ?_;refine WpO.nil ?_;refine WpC.drawn tabOk (by kernel_rfl) 4 (by simp) ?_
  iterate 4 refine yO 3 ?_
  refine yO 2 ?_;refine DrO.nil ⟨by kernel_rfl,?_⟩
  refine zr ?_;exact⟨hlt,(),trivial,Gh.pick [41,2,6,8,39,40] [0,1,2,3,8,10] (by simp;rfl) (by simp[hw]) (by simp) (by simp) (by simp;rfl) (by simp[htk]) (by simp)⟩
 refine WpC.exit ?_;have hkn:k=funds.length:=by omega
 subst hkn;try simp only[List.take_length]
 refine zR ?_;refine WpC.ret ?_;try simp only[aa,aj]
 refine zE ?_;simp -implicitDefEqProofs[H]
def cq (a b:List Int) (i:Nat):Int:=aQ a i-(if b.length=0 then 0 else aQ b i)
theorem qn (a b:List Int) (ha:a.length<=1000000) (hb:b.length=0\/b.length=a.length) (hw:∀i,i<a.length->aC (cq a b i)):
 ah Tryz.prog 48 [.d (.list 1 (a.map dI)),.d (.list 1 (b.map dI))] (.d (.list 1 (aA (cq a b) a.length))):=by
 have hz0:aA (cq a b) 0=[]:=rfl;refine ah.enter tabOk Tryz.func48 rfl (by show 2<=30;decide) ?_
 simp only[Tryz.f48];have H:=hz0;iterate 2 refine zR ?_
 refine WpC.seq ?_;refine WpC.gh (Gh.nilArr 3 1 (t:=5) (by simp) (by simp)) ?_
 refine zR ?_;refine WpC.block ?_;refine WpC.loopK [1,8,9] [5,10] (a.length) (():Unit) (λk _=>[(5,.sl 0 k),(10,.d (.int .i64 k))]) (λk _=>[.arr 3 1 (aA (cq a b) k)]) (λk _=>True) (by simp -implicitDefEqProofs[H]<;>rfl) (Gh.cut' [5,10,1,8,9] 1 (by simp -implicitDefEqProofs[H]) (by simp -implicitDefEqProofs[H]) rfl (by simp) (by simp) (by simp)) (by simp) ?_
 rintro k ⟨⟩ hk hi;simp only[List.cons_append,List.nil_append];refine zR ?_;refine WpC.seq (zL (k<a.length) (λhlt=>?_) (λhge=>?_))
 ·refine WpC.skip ?_;have hkl:k<a.length:=by omega
  obtain⟨x,hx⟩:∃x,a[k]=x:=⟨_,rfl⟩
  have hkw:IntKind.i64.wrap ((k:Int)+1)=k+1:=am (by omega) (by omega)
  have hks:k<=8589934591:=by omega
  have hra:=l5 (cq a b) k;have hin:=hw k hkl;obtain⟨z,hz⟩:∃z,cq a b k=z:=⟨_,rfl⟩
  rw[hz] at hra hin;have hzd:=hz;rw[cq,bO hkl,hx] at hzd;unfold aC at hin;replace H:=And.intro hlt (And.intro hkl (And.intro hx (And.intro hkw (And.intro hks H))));refine WpC.seq ?_;refine WpC.block ?_;refine zR ?_;refine WpC.seq ?_;refine zR ?_;refine zD (0<b.length) (λd17=>?_) (λd17=>?_)
  ·have hkb:k<b.length:=by omega
   obtain⟨y,hy⟩:∃y,b[k]=y:=⟨_,rfl⟩
   rw[if_neg (by omega),bO hkb,hy] at hzd
   have wz:IntKind.i64.wrap (x-y)=z:=by rw[hzd];exact am (by omega) (by omega)
   replace H:=And.intro d17 (And.intro hkb (And.intro hy (And.intro wz H)));iterate 3 refine zr ?_
   exact⟨hlt,(),trivial,Gh.pick [5,10,1,8,9] [2] (by simp -implicitDefEqProofs[H,hra,wz];rfl) (by simp -implicitDefEqProofs[H,hra,wz]) (by simp) (by simp) (by simp;rfl) (by simp -implicitDefEqProofs[H,hra,wz]) (by simp)⟩
  rw[if_pos (by omega)] at hzd
  have wz:x=z:=by omega
  replace H:=And.intro d17 (And.intro wz H);refine WpC.skip ?_;iterate 2 refine zr ?_
  exact⟨hlt,(),trivial,Gh.pick [5,10,1,8,9] [2] (by simp -implicitDefEqProofs[H,hra,wz];rfl) (by simp -implicitDefEqProofs[H,hra,wz]) (by simp) (by simp) (by simp;rfl) (by simp -implicitDefEqProofs[H,hra,wz]) (by simp)⟩
 refine WpC.exit ?_;have hkn:k=a.length:=by omega
 subst hkn;refine zR ?_;refine WpC.ret ?_;try simp only[aa,aj]
 refine zE ?_;simp -implicitDefEqProofs[H]
end Go.Proofs.YtlhmejigmokbhaaGreatDoor.Pay
