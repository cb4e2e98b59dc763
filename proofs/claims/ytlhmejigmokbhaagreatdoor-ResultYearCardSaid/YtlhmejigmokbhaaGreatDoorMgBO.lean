/- The texts RsC, RsD, one behind the other. No statement of the seed is proved here. -/
import Derived.Test.YtlhmejigmokbhaaGreatDoorMgBM
import Derived.Test.YtlhmejigmokbhaaGreatDoorMgBN
namespace Go.Proofs.YtlhmejigmokbhaaGreatDoor.Pay
open Go Go.RowKit
set_option linter.unusedVariables false
set_option linter.unusedSimpArgs false
def cd (rows:List Rw) (funds:List Fd) (y:Yr) (taxable base:Int):Int:=
 if dZ rows funds=false then 1 else if [y.taxable,taxable,y.base,base].any bE=true then 3 else if (bE (y.taxable+taxable)||bE (y.base+base))=true then 3 else
  if (y.paid.length≠0/\y.paid.length≠funds.length)\/(y.owed.length≠0/\y.owed.length≠funds.length) then 1 else 0
def ef (due y:Yr) (taxable base:Int):Yr:=⟨taxable,base,due.tax-y.tax,(List.range due.paid.length).map (cq due.paid y.paid),(List.range due.owed.length).map (cq due.owed y.owed)⟩
def gB (rows:List Rw) (funds:List Fd) (y:Yr) (taxable base:Int):Yr:=if cd rows funds y taxable base=0 then bP rows funds (y.taxable+taxable) (y.base+base) else av
def bH (rows:List Rw) (funds:List Fd) (y:Yr) (taxable base:Int):Yr:=if cd rows funds y taxable base=0 then ef (bP rows funds (y.taxable+taxable) (y.base+base)) y taxable base else av
def Yr.okY (y:Yr):Prop:=(-1152921504606846976<=y.tax/\y.tax<=1152921504606846976)/\(∀n∈y.paid,-1152921504606846976<=n/\n<=1152921504606846976)/\∀n∈y.owed,-1152921504606846976<=n/\n<=1152921504606846976
theorem dR {l:List Int} {B:Int} (hB:0<=B) (h:∀n∈l,-B<=n/\n<=B) (i:Nat): -B<=aQ l i/\aQ l i<=B:=by
 unfold aQ;cases hi:l[i]? with
 |none=>simp;omega
 |some x=>simpa using h x (List.mem_of_getElem? hi)
theorem vP (rows:List Rw) (funds:List Fd) (y:Yr) (taxable base:Int) (hr:rows.length<=1000000000) (hf:funds.length<=1000000000) (h:dZ rows funds=false):
 ah Tryz.prog 22 [.d (fy rows funds),.d y.enc,.d (dI taxable),.d (dI base)] (.tup [.d av.enc,.d av.enc,.d (dI 1)]):=by
 have h1:=eV rows funds hr hf;rw[h] at h1;refine ah.enter tabOk Tryz.func22 rfl (by show 4<=99;decide) ?_
 simp only[Tryz.f22];have H:=trivial;refine qR (by simp -implicitDefEqProofs[av,H]<;>rfl) ?_
 refine WpC.seq ?_;refine WpC.block ?_;refine WpC.seq ?_;refine WpC.region ?_;refine WpO.run tabOk 1 (by simp -implicitDefEqProofs[av,H]<;>first|exact⟨rfl,rfl⟩|rfl) ?_
 refine WpO.data (by simp) rfl (by simp -implicitDefEqProofs[av,H]<;>rfl) (by simp -implicitDefEqProofs[av,H]<;>rfl) (by simp -implicitDefEqProofs[av,H]<;>rfl) fh (by simp) (h1) (by rfl) (by simp -implicitDefEqProofs[av,H]<;>rfl) ?_
 refine WpO.run tabOk 2 (by simp -implicitDefEqProofs[av,H]<;>first|exact⟨rfl,rfl⟩|rfl) ?_
 refine WpO.nil ?_;refine WpC.condT (by simp -implicitDefEqProofs[av,H]<;>rfl) ?_
 refine qR (by simp -implicitDefEqProofs[av,H]<;>rfl) ?_
 refine WpC.ret ?_;try simp only[aa,aj]
 refine dB (by simp -implicitDefEqProofs[av,H]<;>rfl) (by simp -implicitDefEqProofs[av,H]<;>rfl) ?_
 simp -implicitDefEqProofs[av,H]
theorem vR (rows:List Rw) (funds:List Fd) (y:Yr) (taxable base:Int) (h:dZ rows funds=true) (h2:[y.taxable,taxable,y.base,base].any bE=true):
 ah Tryz.prog 22 [.d (fy rows funds),.d y.enc,.d (dI taxable),.d (dI base)] (.tup [.d av.enc,.d av.enc,.d (dI 3)]):=by
 have hff:=cQ h;have hbf:=bM hff.1;have h1:=eV rows funds (by omega) (by omega)
 rw[h] at h1;have h3:=kw [y.taxable,taxable,y.base,base] (by simp)
 rw[h2] at h3;refine ah.enter tabOk Tryz.func22 rfl (by show 4<=99;decide) ?_
 simp only[Tryz.f22];have H:=trivial;refine qR (by simp -implicitDefEqProofs[av,H]<;>rfl) ?_
 refine WpC.seq ?_;refine WpC.block ?_;refine WpC.seq ?_;refine WpC.region ?_;refine WpO.run tabOk 1 (by simp -implicitDefEqProofs[av,H]<;>first|exact⟨rfl,rfl⟩|rfl) ?_
 refine WpO.data (by simp) rfl (by simp -implicitDefEqProofs[av,H]<;>rfl) (by simp -implicitDefEqProofs[av,H]<;>rfl) (by simp -implicitDefEqProofs[av,H]<;>rfl) fh (by simp) (h1) (by rfl) (by simp -implicitDefEqProofs[av,H]<;>rfl) ?_
 refine WpO.run tabOk 2 (by simp -implicitDefEqProofs[av,H]<;>first|exact⟨rfl,rfl⟩|rfl) ?_
 refine WpO.nil ?_;refine WpC.condF (by simp -implicitDefEqProofs[av,H]<;>rfl) ?_
 refine WpC.seq ?_;refine WpC.region ?_;refine WpO.run tabOk 7 (by simp -implicitDefEqProofs[av,H]<;>first|exact⟨rfl,rfl⟩|rfl) ?_
 refine WpO.lend (by simp) rfl (by simp -implicitDefEqProofs[av,H]<;>rfl) (by simp -implicitDefEqProofs[av,H]<;>rfl) (by simp -implicitDefEqProofs[av,H]<;>rfl) iy (h3) (by rfl) (by simp -implicitDefEqProofs[av,H]<;>rfl) ?_
 refine WpO.run tabOk 1 (by simp -implicitDefEqProofs[av,H]<;>first|exact⟨rfl,rfl⟩|rfl) ?_
 refine WpO.nil ?_;refine WpC.condT (by simp -implicitDefEqProofs[av,H]<;>rfl) ?_
 refine qR (by simp -implicitDefEqProofs[av,H]<;>rfl) ?_
 refine WpC.ret ?_;try simp only[aa,aj]
 refine dB (by simp -implicitDefEqProofs[av,H]<;>rfl) (by simp -implicitDefEqProofs[av,H]<;>rfl) ?_
 simp -implicitDefEqProofs[av,H]
theorem oR {l:List Int} (h:l.any bE=false):∀n∈l,-1125899906842624<=n/\n<=1125899906842624:=λn hn=>by
 have:=List.any_eq_false.1 h n hn;simp[bE] at this;omega
theorem uh (rows:List Rw) (funds:List Fd) (y:Yr) (taxable base:Int) (h:dZ rows funds=true) (h2:[y.taxable,taxable,y.base,base].any bE=false) (h4:(bE (y.taxable+taxable)||bE (y.base+base))=true):
 ah Tryz.prog 22 [.d (fy rows funds),.d y.enc,.d (dI taxable),.d (dI base)] (.tup [.d av.enc,.d av.enc,.d (dI 3)]):=by
 have hff:=cQ h;have hbf:=bM hff.1;have h1:=eV rows funds (by omega) (by omega)
 rw[h] at h1;have h3:=kw [y.taxable,taxable,y.base,base] (by simp)
 rw[h2] at h3;have hn:=oR h2;have n1:=hn y.taxable (by simp)
 have n2:=hn taxable (by simp)
 have n3:=hn y.base (by simp)
 have n4:=hn base (by simp)
 have w1:IntKind.i64.wrap (y.taxable+taxable)=y.taxable+taxable:=am (by omega) (by omega)
 have w2:IntKind.i64.wrap (y.base+base)=y.base+base:=am (by omega) (by omega)
 have hd:=FD rows funds (y.taxable+taxable) (y.base+base) h h4;refine ah.enter tabOk Tryz.func22 rfl (by show 4<=99;decide) ?_
 simp only[Tryz.f22];have H:=And.intro w1 w2;refine qR (by simp -implicitDefEqProofs[av,H]<;>rfl) ?_
 refine WpC.seq ?_;refine WpC.block ?_;refine WpC.seq ?_;refine WpC.region ?_;refine WpO.run tabOk 1 (by simp -implicitDefEqProofs[av,H]<;>first|exact⟨rfl,rfl⟩|rfl) ?_
 refine WpO.data (by simp) rfl (by simp -implicitDefEqProofs[av,H]<;>rfl) (by simp -implicitDefEqProofs[av,H]<;>rfl) (by simp -implicitDefEqProofs[av,H]<;>rfl) fh (by simp) (h1) (by rfl) (by simp -implicitDefEqProofs[av,H]<;>rfl) ?_
 refine WpO.run tabOk 2 (by simp -implicitDefEqProofs[av,H]<;>first|exact⟨rfl,rfl⟩|rfl) ?_
 refine WpO.nil ?_;refine WpC.condF (by simp -implicitDefEqProofs[av,H]<;>rfl) ?_
 refine WpC.seq ?_;refine WpC.region ?_;refine WpO.run tabOk 7 (by simp -implicitDefEqProofs[av,H]<;>first|exact⟨rfl,rfl⟩|rfl) ?_
 refine WpO.lend (by simp) rfl (by simp -implicitDefEqProofs[av,H]<;>rfl) (by simp -implicitDefEqProofs[av,H]<;>rfl) (by simp -implicitDefEqProofs[av,H]<;>rfl) iy (h3) (by rfl) (by simp -implicitDefEqProofs[av,H]<;>rfl) ?_
 refine WpO.run tabOk 1 (by simp -implicitDefEqProofs[av,H]<;>first|exact⟨rfl,rfl⟩|rfl) ?_
 refine WpO.nil ?_;refine WpC.condF (by simp -implicitDefEqProofs[av,H]<;>rfl) ?_
 refine WpC.skip ?_;refine WpC.seq ?_;refine WpC.region ?_;refine WpO.run tabOk 9 (by simp -implicitDefEqProofs[av,H]<;>first|exact⟨rfl,rfl⟩|rfl) ?_
 refine WpO.data (by simp) rfl (by simp -implicitDefEqProofs[av,H]<;>rfl) (by simp -implicitDefEqProofs[av,H]<;>rfl) (by simp -implicitDefEqProofs[av,H]<;>rfl) pm (by simp) (hd) (by rfl) (by simp -implicitDefEqProofs[av,H]<;>rfl) ?_
 refine WpO.run tabOk 6 (by simp -implicitDefEqProofs[av,H]<;>first|exact⟨rfl,rfl⟩|rfl) ?_
 refine WpO.nil ?_;refine WpC.seq ?_;refine WpC.block ?_;refine qR (by simp -implicitDefEqProofs[av,H]<;>rfl) ?_
 refine WpC.condT (by simp -implicitDefEqProofs[av,H]<;>rfl) ?_
 refine qR (by simp -implicitDefEqProofs[av,H]<;>rfl) ?_
 refine WpC.ret ?_;try simp only[aa,aj]
 refine dB (by simp -implicitDefEqProofs[av,H]<;>rfl) (by simp -implicitDefEqProofs[av,H]<;>rfl) ?_
 simp -implicitDefEqProofs[av,H]
theorem lm (a b:Nat):decide ((a:Int)=b)=decide (a=b):=decide_eq_decide.2 (by omega)
theorem vQ (rows:List Rw) (funds:List Fd) (y:Yr) (taxable base:Int) (h:dZ rows funds=true) (h2:[y.taxable,taxable,y.base,base].any bE=false) (h4:(bE (y.taxable+taxable)||bE (y.base+base))=false)
 (h5:(y.paid.length≠0/\y.paid.length≠funds.length)\/(y.owed.length≠0/\y.owed.length≠funds.length)):
 ah Tryz.prog 22 [.d (fy rows funds),.d y.enc,.d (dI taxable),.d (dI base)] (.tup [.d av.enc,.d av.enc,.d (dI 1)]):=by
 have hff:=cQ h;have hbf:=bM hff.1;have h1:=eV rows funds (by omega) (by omega)
 rw[h] at h1;have h3:=kw [y.taxable,taxable,y.base,base] (by simp)
 rw[h2] at h3;have hn:=oR h2;have n1:=hn y.taxable (by simp)
 have n2:=hn taxable (by simp)
 have n3:=hn y.base (by simp)
 have n4:=hn base (by simp)
 have w1:IntKind.i64.wrap (y.taxable+taxable)=y.taxable+taxable:=am (by omega) (by omega)
 have w2:IntKind.i64.wrap (y.base+base)=y.base+base:=am (by omega) (by omega)
 have hd:=xQ rows funds (y.taxable+taxable) (y.base+base) h h4;obtain⟨dd,hdd⟩:∃d,bP rows funds (y.taxable+taxable) (y.base+base)=d:=⟨_,rfl⟩
 rw[hdd] at hd;obtain⟨np,hnp⟩:∃n,y.paid.length=n:=⟨_,rfl⟩
 obtain⟨no,hno⟩:∃n,y.owed.length=n:=⟨_,rfl⟩
 obtain⟨nf,hnf⟩:∃n,funds.length=n:=⟨_,rfl⟩
 rw[hnp,hno,hnf] at h5;have e1:=lm np nf;have e2:=lm no nf;refine ah.enter tabOk Tryz.func22 rfl (by show 4<=99;decide) ?_
 simp only[Tryz.f22];have H:=And.intro w1 (And.intro w2 (And.intro hnp (And.intro hno (And.intro hnf (And.intro e1 e2)))));refine qR (by simp -implicitDefEqProofs[av,H]<;>rfl) ?_
 refine WpC.seq ?_;refine WpC.block ?_;refine WpC.seq ?_;refine WpC.region ?_;refine WpO.run tabOk 1 (by simp -implicitDefEqProofs[av,H]<;>first|exact⟨rfl,rfl⟩|rfl) ?_
 refine WpO.data (by simp) rfl (by simp -implicitDefEqProofs[av,H]<;>rfl) (by simp -implicitDefEqProofs[av,H]<;>rfl) (by simp -implicitDefEqProofs[av,H]<;>rfl) fh (by simp) (h1) (by rfl) (by simp -implicitDefEqProofs[av,H]<;>rfl) ?_
 refine WpO.run tabOk 2 (by simp -implicitDefEqProofs[av,H]<;>first|exact⟨rfl,rfl⟩|rfl) ?_
 refine WpO.nil ?_;refine WpC.condF (by simp -implicitDefEqProofs[av,H]<;>rfl) ?_
 refine WpC.seq ?_;refine WpC.region ?_;refine WpO.run tabOk 7 (by simp -implicitDefEqProofs[av,H]<;>first|exact⟨rfl,rfl⟩|rfl) ?_
 refine WpO.lend (by simp) rfl (by simp -implicitDefEqProofs[av,H]<;>rfl) (by simp -implicitDefEqProofs[av,H]<;>rfl) (by simp -implicitDefEqProofs[av,H]<;>rfl) iy (h3) (by rfl) (by simp -implicitDefEqProofs[av,H]<;>rfl) ?_
 refine WpO.run tabOk 1 (by simp -implicitDefEqProofs[av,H]<;>first|exact⟨rfl,rfl⟩|rfl) ?_
 refine WpO.nil ?_;refine WpC.condF (by simp -implicitDefEqProofs[av,H]<;>rfl) ?_
 refine WpC.skip ?_;refine WpC.seq ?_;refine WpC.region ?_;refine WpO.run tabOk 9 (by simp -implicitDefEqProofs[av,H]<;>first|exact⟨rfl,rfl⟩|rfl) ?_
 refine WpO.data (by simp) rfl (by simp -implicitDefEqProofs[av,H]<;>rfl) (by simp -implicitDefEqProofs[av,H]<;>rfl) (by simp -implicitDefEqProofs[av,H]<;>rfl) pm (by simp) (hd) (by rfl) (by simp -implicitDefEqProofs[av,H]<;>rfl) ?_
 refine WpO.run tabOk 6 (by simp -implicitDefEqProofs[av,H]<;>first|exact⟨rfl,rfl⟩|rfl) ?_
 refine WpO.nil ?_;refine WpC.seq ?_;refine WpC.block ?_;refine qR (by simp -implicitDefEqProofs[av,H]<;>rfl) ?_
 refine WpC.condF (by simp -implicitDefEqProofs[av,H]<;>rfl) ?_
 refine WpC.seq ?_;refine WpC.val 49 (.d (.bool (true))) ?_ ?_
 ·refine WpC.region ?_;refine WpO.run tabOk 5 (by simp -implicitDefEqProofs[av,H]<;>first|exact⟨rfl,rfl⟩|rfl) ?_
  refine WpO.splitB 54 (by simp -implicitDefEqProofs[av,H]<;>rfl) (by rfl) (λg54=>?_) (λg54=>?_)
  ·have g54':=zN g54;replace H:=And.intro g54 H;refine WpO.run tabOk 9 (by simp -implicitDefEqProofs[av,H]<;>first|exact⟨rfl,rfl⟩|rfl) ?_
   refine WpO.splitB 63 (by simp -implicitDefEqProofs[av,H]<;>rfl) (by rfl) (λg63=>?_) (λg63=>?_)
   ·have g63':=zN g63;replace H:=And.intro g63 H;refine WpO.run tabOk 15 (by simp -implicitDefEqProofs[av,H]<;>first|exact⟨rfl,rfl⟩|rfl) ?_
    refine WpO.nil ?_;refine⟨rfl,Gh.only 49 31 ?_ (by first|rfl|simp -implicitDefEqProofs[av,H]) (by rfl)⟩
    simp -implicitDefEqProofs[av,H,g54',g63']<;>omega
   have g63':=zN g63;replace H:=And.intro g63 H;refine WpO.run tabOk 5 (by simp -implicitDefEqProofs[av,H]<;>first|exact⟨rfl,rfl⟩|rfl) ?_
   refine WpO.splitB 68 (by simp -implicitDefEqProofs[av,H]<;>rfl) (by rfl) (λg68=>?_) (λg68=>?_)
   ·have g68':=zN g68;replace H:=And.intro g68 H;refine WpO.run tabOk 10 (by simp -implicitDefEqProofs[av,H]<;>first|exact⟨rfl,rfl⟩|rfl) ?_
    refine WpO.nil ?_;refine⟨rfl,Gh.only 49 32 ?_ (by first|rfl|simp -implicitDefEqProofs[av,H]) (by rfl)⟩
    simp -implicitDefEqProofs[av,H,g54',g63',g68']<;>omega
   have g68':=zN g68;replace H:=And.intro g68 H;refine WpO.run tabOk 10 (by simp -implicitDefEqProofs[av,H]<;>first|exact⟨rfl,rfl⟩|rfl) ?_
   refine WpO.nil ?_;refine⟨rfl,Gh.only 49 32 ?_ (by first|rfl|simp -implicitDefEqProofs[av,H]) (by rfl)⟩
   simp -implicitDefEqProofs[av,H,g54',g63',g68']<;>omega
  have g54':=zN g54;replace H:=And.intro g54 H;refine WpO.run tabOk 14 (by simp -implicitDefEqProofs[av,H]<;>first|exact⟨rfl,rfl⟩|rfl) ?_
  refine WpO.splitB 68 (by simp -implicitDefEqProofs[av,H]<;>rfl) (by rfl) (λg68=>?_) (λg68=>?_)
  ·have g68':=zN g68;replace H:=And.intro g68 H;refine WpO.run tabOk 10 (by simp -implicitDefEqProofs[av,H]<;>first|exact⟨rfl,rfl⟩|rfl) ?_
   refine WpO.nil ?_;refine⟨rfl,Gh.only 49 31 ?_ (by first|rfl|simp -implicitDefEqProofs[av,H]) (by rfl)⟩
   simp -implicitDefEqProofs[av,H,g54',g68']<;>omega
  have g68':=zN g68;replace H:=And.intro g68 H;refine WpO.run tabOk 10 (by simp -implicitDefEqProofs[av,H]<;>first|exact⟨rfl,rfl⟩|rfl) ?_
  refine WpO.nil ?_;refine⟨rfl,Gh.only 49 31 ?_ (by first|rfl|simp -implicitDefEqProofs[av,H]) (by rfl)⟩
  simp -implicitDefEqProofs[av,H,g54',g68']<;>omega
 refine WpC.condT (by simp -implicitDefEqProofs[av,H]<;>rfl) ?_
 refine qR (by simp -implicitDefEqProofs[av,H]<;>rfl) ?_
 refine WpC.ret ?_;try simp only[aa,aj]
 refine dB (by simp -implicitDefEqProofs[av,H]<;>rfl) (by simp -implicitDefEqProofs[av,H]<;>rfl) ?_
 simp -implicitDefEqProofs[av,H]
theorem uH (a b:List Int):aA (cq a b) a.length=((List.range a.length).map (cq a b)).map dI:=by
 simp[aA]
theorem tB {rows:List Rw} {funds:List Fd} {taxable base:Int} (h:dZ rows funds=true) (ht:taxable<=1125899906842624) (hb:base<=1125899906842624):(0<=(bP rows funds taxable base).tax/\(bP rows funds taxable base).tax<=13510798882111488)/\
 (∀n∈(bP rows funds taxable base).paid,-1125899906842624<=n/\n<=1125899906842624)/\∀n∈(bP rows funds taxable base).owed,-1125899906842624<=n/\n<=1125899906842624:=by
 have hff:=cQ h;refine⟨sk hff.1 ht (Nat.le_refl _),λn hn=>?_,λn hn=>?_⟩
 ·simp only[bP,List.mem_map] at hn;obtain⟨f,hf,rfl⟩:=hn;have hp:=hff.2.2 f hf;have:=o_ (base:=base) hp.1 hp.2.1 hb hp.2.2.2.2;omega
 ·simp only[bP,List.mem_map] at hn;obtain⟨f,hf,rfl⟩:=hn;have hp:=hff.2.2 f hf;have:=o_ (base:=base) hp.2.2.1 hp.2.2.2.1 hb hp.2.2.2.2;omega
set_option maxHeartbeats 4000000 in
theorem vO (rows:List Rw) (funds:List Fd) (y:Yr) (taxable base:Int) (hy:y.okY) (h:dZ rows funds=true) (h2:[y.taxable,taxable,y.base,base].any bE=false) (h4:(bE (y.taxable+taxable)||bE (y.base+base))=false)
 (h5:¬((y.paid.length≠0/\y.paid.length≠funds.length)\/(y.owed.length≠0/\y.owed.length≠funds.length))):
 ah Tryz.prog 22 [.d (fy rows funds),.d y.enc,.d (dI taxable),.d (dI base)]
  (.tup [.d (bP rows funds (y.taxable+taxable) (y.base+base)).enc,.d (ef (bP rows funds (y.taxable+taxable) (y.base+base)) y taxable base).enc,.d (dI 0)]):=by
 have hff:=cQ h;have hbf:=bM hff.1;have h1:=eV rows funds (by omega) (by omega)
 rw[h] at h1;have h3:=kw [y.taxable,taxable,y.base,base] (by simp)
 rw[h2] at h3;have hn:=oR h2;have n1:=hn y.taxable (by simp)
 have n2:=hn taxable (by simp)
 have n3:=hn y.base (by simp)
 have n4:=hn base (by simp)
 have w1:IntKind.i64.wrap (y.taxable+taxable)=y.taxable+taxable:=am (by omega) (by omega)
 have w2:IntKind.i64.wrap (y.base+base)=y.base+base:=am (by omega) (by omega)
 have hd:=xQ rows funds (y.taxable+taxable) (y.base+base) h h4;have hrg:y.taxable+taxable<=1125899906842624/\y.base+base<=1125899906842624:=by
  simp[bE] at h4;omega
 obtain⟨d1,d2,d3⟩:=tB (base:=y.base+base) h hrg.1 hrg.2;have hl1:(bP rows funds (y.taxable+taxable) (y.base+base)).paid.length=funds.length:=by simp[bP]
 have hl2:(bP rows funds (y.taxable+taxable) (y.base+base)).owed.length=funds.length:=by simp[bP]
 obtain⟨dd,hdd⟩:∃d,bP rows funds (y.taxable+taxable) (y.base+base)=d:=⟨_,rfl⟩
 rw[hdd] at hd d1 d2 d3 hl1 hl2 ⊢;have w3:IntKind.i64.wrap (dd.tax-y.tax)=dd.tax-y.tax:=by
  have:=hy.1;exact am (by omega) (by omega)
 have hq1:=qn dd.paid y.paid (by omega) (by omega) λi hi=>by
  have a1:=dR (B:=1125899906842624) (by omega) d2 i
  have a2:=dR (B:=1152921504606846976) (by omega) hy.2.1 i
  unfold aC cq;split<;>omega
 have hq2:=qn dd.owed y.owed (by omega) (by omega) λi hi=>by
  have a1:=dR (B:=1125899906842624) (by omega) d3 i
  have a2:=dR (B:=1152921504606846976) (by omega) hy.2.2 i
  unfold aC cq;split<;>omega
 rw[uH] at hq1 hq2;obtain⟨np,hnp⟩:∃n,y.paid.length=n:=⟨_,rfl⟩
 obtain⟨no,hno⟩:∃n,y.owed.length=n:=⟨_,rfl⟩
 obtain⟨nf,hnf⟩:∃n,funds.length=n:=⟨_,rfl⟩
 rw[hnp,hno,hnf] at h5;have e1:=lm np nf;have e2:=lm no nf;obtain⟨P,hP⟩:∃P,(List.range dd.paid.length).map (cq dd.paid y.paid)=P:=⟨_,rfl⟩
 obtain⟨O,hO⟩:∃P,(List.range dd.owed.length).map (cq dd.owed y.owed)=P:=⟨_,rfl⟩
 rw[hP] at hq1;rw[hO] at hq2;have hcame:ef dd y taxable base=⟨taxable,base,dd.tax-y.tax,P,O⟩:=by unfold ef;rw[hP,hO]
 rw[hcame];refine ah.enter tabOk Tryz.func22 rfl (by show 4<=99;decide) ?_
 simp only[Tryz.f22];have H:=And.intro w1 (And.intro w2 (And.intro w3 (And.intro hnp (And.intro hno (And.intro hnf (And.intro e1 e2))))));refine zR ?_;refine WpC.seq ?_;refine WpC.block ?_;refine WpC.seq ?_;refine WpC.region ?_;refine zO 1 ?_;refine zG fh (h1) ?_;refine zO 2 ?_;refine WpO.nil ?_;refine zF ?_;refine WpC.seq ?_;refine WpC.region ?_;refine zO 7 ?_;refine zB iy (h3) ?_;refine zO 1 ?_;refine WpO.nil ?_;refine zF ?_;refine WpC.skip ?_;refine WpC.seq ?_;refine WpC.region ?_;refine zO 9 ?_;refine zG pm (hd) ?_;refine zO 6 ?_;refine WpO.nil ?_;refine WpC.seq ?_;refine WpC.block ?_;refine zR ?_;refine zF ?_;refine WpC.seq ?_;refine WpC.val 49 (.d (.bool (false))) ?_ ?_
 ·refine WpC.region ?_;refine zO 5 ?_;refine zS 54 (λg54=>?_) (λg54=>?_)
  ·have g54':=zN g54;replace H:=And.intro g54 H;refine zO 9 ?_;refine zS 63 (λg63=>?_) (λg63=>?_)
   ·have g63':=zN g63;replace H:=And.intro g63 H;refine zO 12 ?_;refine zO 3 ?_;refine WpO.nil ?_;refine⟨rfl,Gh.only 49 31 ?_ (by first|rfl|simp -implicitDefEqProofs[H]) (by rfl)⟩
    simp -implicitDefEqProofs[H,g54',g63']<;>omega
   have g63':=zN g63;replace H:=And.intro g63 H;refine zO 5 ?_;refine zS 68 (λg68=>?_) (λg68=>?_)
   ·have g68':=zN g68;replace H:=And.intro g68 H;refine zO 10 ?_;refine WpO.nil ?_;refine⟨rfl,Gh.only 49 32 ?_ (by first|rfl|simp -implicitDefEqProofs[H]) (by rfl)⟩
    simp -implicitDefEqProofs[H,g54',g63',g68']<;>omega
   have g68':=zN g68;replace H:=And.intro g68 H;refine zO 10 ?_;refine WpO.nil ?_;refine⟨rfl,Gh.only 49 32 ?_ (by first|rfl|simp -implicitDefEqProofs[H]) (by rfl)⟩
   simp -implicitDefEqProofs[H,g54',g63',g68']<;>omega
  have g54':=zN g54;replace H:=And.intro g54 H;refine zO 12 ?_;refine zO 2 ?_;refine zS 68 (λg68=>?_) (λg68=>?_)
  ·have g68':=zN g68;replace H:=And.intro g68 H;refine zO 10 ?_;refine WpO.nil ?_;refine⟨rfl,Gh.only 49 31 ?_ (by first|rfl|simp -implicitDefEqProofs[H]) (by rfl)⟩
   simp -implicitDefEqProofs[H,g54',g68']<;>omega
  have g68':=zN g68;replace H:=And.intro g68 H;refine zO 10 ?_;refine WpO.nil ?_;refine⟨rfl,Gh.only 49 31 ?_ (by first|rfl|simp -implicitDefEqProofs[H]) (by rfl)⟩
  simp -implicitDefEqProofs[H,g54',g68']<;>omega
 refine zF ?_;refine WpC.skip ?_;refine WpC.seq ?_;refine WpC.drawn tabOk (by kernel_rfl) 0 (by simp) ?_
 iterate 4 refine yO 3 ?_
 refine yG tP (hq1) ?_;refine yO 3 ?_;refine yO 1 ?_;refine yG tP (hq2) ?_;refine yO 3 ?_;refine yO 1 ?_;refine DrO.nil ⟨by kernel_rfl,?_⟩
 refine WpC.ret ?_;try simp only[aa,aj]
 refine zE ?_;simp -implicitDefEqProofs[H]
theorem AC (rows:List Rw) (funds:List Fd) (y:Yr) (taxable base:Int) (hr:rows.length<=1000000000) (hf:funds.length<=1000000000) (hy:y.okY):
 ah Tryz.prog 22 [.d (fy rows funds),.d y.enc,.d (dI taxable),.d (dI base)] (.tup [.d (gB rows funds y taxable base).enc,.d (bH rows funds y taxable base).enc,.d (dI (cd rows funds y taxable base))]):=by
 unfold gB bH;by_cases h:dZ rows funds=false
 ·have e:cd rows funds y taxable base=1:=by unfold cd;rw[if_pos h]
  rw[e];exact vP rows funds y taxable base hr hf h
 ·have h':dZ rows funds=true:=by simpa using h
  by_cases h2:[y.taxable,taxable,y.base,base].any bE=true
  ·have e:cd rows funds y taxable base=3:=by unfold cd;rw[if_neg h,if_pos h2]
   rw[e];exact vR rows funds y taxable base h' h2
  ·have h2':[y.taxable,taxable,y.base,base].any bE=false:=by simpa using h2
   by_cases h4:(bE (y.taxable+taxable)||bE (y.base+base))=true
   ·have e:cd rows funds y taxable base=3:=by unfold cd;rw[if_neg h,if_neg h2,if_pos h4]
    rw[e];exact uh rows funds y taxable base h' h2' h4
   ·have h4':(bE (y.taxable+taxable)||bE (y.base+base))=false:=by simpa using h4
    by_cases h5:(y.paid.length≠0/\y.paid.length≠funds.length)\/(y.owed.length≠0/\y.owed.length≠funds.length)
    ·have e:cd rows funds y taxable base=1:=by unfold cd;rw[if_neg h,if_neg h2,if_neg h4,if_pos h5]
     rw[e];exact vQ rows funds y taxable base h' h2' h4' h5
    ·have e:cd rows funds y taxable base=0:=by unfold cd;rw[if_neg h,if_neg h2,if_neg h4,if_neg h5]
     rw[e];exact vO rows funds y taxable base hy h' h2' h4' h5
theorem Ay (f:Nat->Int) (n:Nat) (hn:n<=1000) (hf:∀i,i<n-> -2305843009213693<=f i/\f i<=2305843009213693):ah Tryz.prog 23 [.d (.list 1 (aA f n))] (.d (dI (aJ f n))):=by
 have hz0:aJ f 0=0:=rfl;have hb:∀k,k<=n-> -(k*2305843009213693:Int)<=aJ f k/\aJ f k<=k*2305843009213693:=by
  intro k;induction k with
  |zero=>intro _;simp[hz0]
  |succ k ih=>
   intro hk;have h1:=ih (by omega)
   have h2:=hf k (by omega)
   rw[aO];omega
 refine ah.enter tabOk Tryz.func23 rfl (by show 1<=17;decide) ?_
 simp only[Tryz.f23];have H:=hz0;iterate 2 refine zR ?_
 refine WpC.seq ?_;refine zR ?_;refine WpC.block ?_;refine WpC.loopK [6,7] [3,8] (n) (():Unit) (λk _=>[(3,.d (dI (aJ f k))),(8,.d (.int .i64 k))]) (λk _=>[]) (λk _=>True) (by simp -implicitDefEqProofs[H]<;>rfl) (Gh.cut' [3,8,6,7] 0 (by simp -implicitDefEqProofs[H]) (by simp -implicitDefEqProofs[H]) rfl (by simp) (by simp) (by simp)) (by simp) ?_
 rintro k ⟨⟩ hk hi;simp only[List.cons_append,List.nil_append];refine zR ?_;refine WpC.seq (zL (k<n) (λhlt=>?_) (λhge=>?_))
 ·refine WpC.skip ?_;have h1:=hb k (by omega)
  have h2:=hf k hlt;have hw:IntKind.i64.wrap ((k:Int)+1)=k+1:=am (by omega) (by omega)
  have hwq:IntKind.i64.wrap (aJ f k+f k)=aJ f (k+1):=by rw[aO];exact am (by omega) (by omega)
  replace H:=And.intro hlt (And.intro hw (And.intro hwq H));refine WpC.seq ?_;refine WpC.block ?_;refine zR ?_;iterate 2 refine zr ?_
  exact⟨hlt,(),trivial,Gh.cut' [3,8,6,7] 0 (by simp -implicitDefEqProofs[H]) (by simp) rfl (by simp) (by simp) (by simp)⟩
 refine WpC.exit ?_;have hkn:k=n:=by omega
 subst hkn;refine zR ?_;refine WpC.ret ?_;try simp only[aa,aj]
 refine zE ?_;simp -implicitDefEqProofs[H]
theorem uf (f:Nat->Int) (n:Nat) (hn:n<=1000) (hf:∀i,i<n-> -2305843009213693<=f i/\f i<=2305843009213693):ah Tryz.prog 13 [.d (.list 1 (aA f n))] (.d (dI (aJ f n))):=by
 have hz0:aJ f 0=0:=rfl;have hb:∀k,k<=n-> -(k*2305843009213693:Int)<=aJ f k/\aJ f k<=k*2305843009213693:=by
  intro k;induction k with
  |zero=>intro _;simp[hz0]
  |succ k ih=>
   intro hk;have h1:=ih (by omega)
   have h2:=hf k (by omega)
   rw[aO];omega
 refine ah.enter tabOk Tryz.func13 rfl (by show 1<=17;decide) ?_
 simp only[Tryz.f13];have H:=hz0;iterate 2 refine zR ?_
 refine WpC.seq ?_;refine zR ?_;refine WpC.block ?_;refine WpC.loopK [6,7] [3,8] (n) (():Unit) (λk _=>[(3,.d (dI (aJ f k))),(8,.d (.int .i64 k))]) (λk _=>[]) (λk _=>True) (by simp -implicitDefEqProofs[H]<;>rfl) (Gh.cut' [3,8,6,7] 0 (by simp -implicitDefEqProofs[H]) (by simp -implicitDefEqProofs[H]) rfl (by simp) (by simp) (by simp)) (by simp) ?_
 rintro k ⟨⟩ hk hi;simp only[List.cons_append,List.nil_append];refine zR ?_;refine WpC.seq (zL (k<n) (λhlt=>?_) (λhge=>?_))
 ·refine WpC.skip ?_;have h1:=hb k (by omega)
  have h2:=hf k hlt;have hw:IntKind.i64.wrap ((k:Int)+1)=k+1:=am (by omega) (by omega)
  have hwq:IntKind.i64.wrap (aJ f k+f k)=aJ f (k+1):=by rw[aO];exact am (by omega) (by omega)
  replace H:=And.intro hlt (And.intro hw (And.intro hwq H));refine WpC.seq ?_;refine WpC.block ?_;refine zR ?_;iterate 2 refine zr ?_
  exact⟨hlt,(),trivial,Gh.cut' [3,8,6,7] 0 (by simp -implicitDefEqProofs[H]) (by simp) rfl (by simp) (by simp) (by simp)⟩
 refine WpC.exit ?_;have hkn:k=n:=by omega
 subst hkn;refine zR ?_;refine WpC.ret ?_;try simp only[aa,aj]
 refine zE ?_;simp -implicitDefEqProofs[H]
def bJ (n:Int):Bool:=decide (35184372088832<n)||decide (n< -35184372088832)
theorem lf (n:Int):ah Tryz.prog 21 [.d (dI n)] (.d (.bool (bJ n))):=by
 refine ah.enter tabOk Tryz.func21 rfl (by show 1<=9;decide) ?_
 simp only[Tryz.f21];have H:=trivial;refine zR ?_;refine WpC.seq ?_;refine WpC.val 2 (.d (.bool (bJ n))) ?_ ?_
 ·refine WpC.region ?_;refine zO 3 ?_;refine zS 5 (λg5=>?_) (λg5=>?_)
  ·have g5':=zN g5;replace H:=And.intro g5 H;refine zO 4 ?_;refine WpO.nil ?_;refine⟨rfl,Gh.only 2 8 ?_ (by first|rfl|simp -implicitDefEqProofs[H]) (by rfl)⟩
   simp -implicitDefEqProofs[H,g5',bJ]
  have g5':=zN g5;replace H:=And.intro g5 H;refine zO 4 ?_;refine WpO.nil ?_;refine⟨rfl,Gh.only 2 8 ?_ (by first|rfl|simp -implicitDefEqProofs[H]) (by rfl)⟩
  simp -implicitDefEqProofs[H,g5',bJ]
 refine WpC.ret ?_;try simp only[aa,aj]
 refine zE ?_;simp -implicitDefEqProofs[H]
structure Ln where
 kind:List UInt8
 name:List UInt8
 amt:Int
 deriving DecidableEq,Inhabited
@[reducible] def Ln.cs (p:Ln):List D:=[.str p.kind,.str p.name,dI p.amt]
@[reducible] def Ln.enc (p:Ln):D:= .agg p.cs
@[reducible] def G3:TypeId:=75
@[reducible] def G2:TypeId:=29
structure Sm where
 gross:Int
 pretax:Int
 post:Int
 deriving DecidableEq,Inhabited
@[reducible] def Sm.cs (p:Sm):List D:=[dI p.gross,dI p.pretax,dI p.post]
@[reducible] def Sm.enc (p:Sm):D:= .agg p.cs
def lnK (r:Ru) (n:Int) (s:Sm):Sm:=
 if r.kind==[101,97,114,110] then⟨s.gross+n,s.pretax,s.post⟩ else if r.kind==[112,114,101,116,97,120] then⟨s.gross,s.pretax+n,s.post⟩
 else if r.kind==[112,111,115,116] then⟨s.gross,s.pretax,s.post+n⟩ else s
def lnS (r:Ru) (n:Int) (q:List Ln×Sm):Option (List Ln×Sm):=
 if r.kind==[108,101,116] then some q else if bJ n=true then none else some (q.1++[⟨r.kind,r.name,n⟩],lnK r n q.2)
def lnL (R:List Ru) (L:List Int):Nat->Option (List Ln×Sm)
 |0=>some ([],⟨0,0,0⟩)
 |k+1=>match lnL R L k with
  |none=>none
  |some q=>lnS (R.getD k default) (aQ L k) q
theorem wP {R:List Ru} {L:List Int} {n:Nat} (h:lnL R L n=none):∀m,n<=m->lnL R L m=none:=by
 intro m hm;induction m with
 |zero=>
  have:n=0:=by omega
  subst this;exact h
 |succ m ih=>
  by_cases hq:n=m+1
  ·subst hq;exact h
  ·rw[lnL,ih (by omega)]
def lnR:Option (List Ln×Sm)->List Ln×Sm×Int
 |some q=>(q.1,q.2,0)
 |none=>([],⟨0,0,0⟩,3)
def az (R:List Ru) (X:List Ex) (p:Inp):List Ln×Sm×Int:=
 if (fA R X p).2.2=0 then lnR (lnL R (fA R X p).1 R.length) else([],⟨0,0,0⟩,(fA R X p).2.2)
theorem mU {R:List Ru} {X:List Ex} {p:Inp} (hv:∀x∈X,inE x) (hp:p.ok) (h:(fA R X p).2.2=0):iJ R X=true/\(fA R X p).1.length=R.length/\∀n∈(fA R X p).1,aC n:=by
 unfold fA at h ⊢;by_cases hc:(bL R X).2.2.2=0
 ·rw[if_pos hc] at h ⊢;have hcf:=kQ hc;split at h
  ·rename_i hw;rw[if_pos hw];cases hl:gw R X (bL R X).2.1 (bL R X).1 (List.replicate R.length 0) (aT p) with
   |error e=>
    exfalso;rw[hl,yI] at h;simp only at h;have:∀(l out:List Int) (w:List Wo),gw R X (bL R X).2.1 l out w= .error e->e.2≠0:=by
     intro l;induction l with
     |nil=>intro out w hx;rw[gw] at hx;cases hx
     |cons i l ih=>
      intro out w hx;rw[gw] at hx;split at hx
      ·exact ih _ _ hx
      ·rename_i hne;cases hx;exact hne
    exact this _ _ _ hl h
   |ok r=>
    have:=mV hv _ _ _ _ hl (nr hp) (λn hn=>by
     rw[(List.mem_replicate.1 hn).2];unfold aC;omega)
    rw[List.length_replicate] at this;exact⟨hcf.1,this.1,this.2⟩
  ·simp at h
 ·rw[if_neg hc] at h;exact absurd h hc
structure La where
 out:List Ln
 s:Sm
def Sm.near (s:Sm) (k:Nat):Prop:=(-(k*35184372088832:Int)<=s.gross/\s.gross<=k*35184372088832)/\(-(k*35184372088832:Int)<=s.pretax/\s.pretax<=k*35184372088832)/\(-(k*35184372088832:Int)<=s.post/\s.post<=k*35184372088832)
set_option maxHeartbeats 8000000 in
theorem uI (R:List Ru) (X:List Ex) (p:Inp) (hR:R.length<=500000000) (hX:X.length<=10000) (hv:∀x∈X,inE x) (hp:p.ok):
 ah Tryz.prog 20 [.d (.agg [aL R,aM X]),.d p.enc] (.tup [.d (.list 3 ((az R X p).1.map Ln.enc)),.d (az R X p).2.1.enc,.d (dI (az R X p).2.2)]):=by
 have h1:=CM R X p hR hX hv hp;have hf:=mU (R:=R) (X:=X) hv hp;unfold az;obtain⟨⟨L,at0,e⟩,hs⟩:∃s,fA R X p=s:=⟨_,rfl⟩
 rw[hs] at h1 hf ⊢;simp only at h1 hf ⊢;by_cases he:e=0
 ·subst he;rw[if_pos rfl];obtain⟨htx,hLl,_⟩:=hf rfl;have h60:=(iZ htx).2.1;obtain⟨S,hS⟩:∃S,lnR (lnL R L R.length)=S:=⟨_,rfl⟩
  have hS0:=hS.symm;rw[hS];clear hS;refine ah.enter tabOk Tryz.func20 rfl (by show 2<=89;decide) ?_
  simp only[Tryz.f20];have H:=trivial;refine zR ?_;refine WpC.seq ?_;refine WpC.region ?_;refine zO 2 ?_;refine zG tQ (h1) ?_;refine zO 7 ?_;refine WpO.nil ?_;refine WpC.seq ?_;refine zR ?_;refine zF ?_;refine WpC.skip ?_;iterate 2 refine zR ?_
  refine WpC.seq ?_;refine zR ?_;refine WpC.block ?_;refine WpC.gh (Gh.nilArr G3 3 (t:=10) (by simp) (by simp)) ?_
  refine WpC.loopK [5,7,11,26,27] [10,28] (R.length) (⟨[],⟨0,0,0⟩⟩:La) (λk x=>[(10,.sl 4 x.out.length),(28,.d (.int .i64 k))]) (λk x=>[.cells 41 [.d (aL R),.d (aM X)],.cells 27 [.d (dI p.base),.d (dI p.bonus),.d (dI p.hours),.d (dI p.days),.d (.bool p.lead)],.cells G2 [.d (dI 0),.d (dI 0),.d (dI 0)],.cells G2 [.d (dI x.s.gross),.d (dI x.s.pretax),.d (dI x.s.post)],.arr G3 3 (x.out.map Ln.enc)]) (λk x=>x.out.length<=k/\x.s.near k/\lnL R L k=some (x.out,x.s)) (by simp -implicitDefEqProofs[H]<;>rfl) (Gh.cut' [10,28,5,7,11,26,27] 5 (by simp -implicitDefEqProofs[H]) (by simp -implicitDefEqProofs[H]) rfl (by simp) (by simp) (by simp)) (⟨by simp,by simp[Sm.near],rfl⟩) ?_
  rintro k x hk hi;simp only[List.cons_append,List.nil_append];refine zR ?_;refine WpC.seq (zL (k<R.length) (λhlt=>?_) (λhge=>?_))
  ·refine WpC.skip ?_;obtain⟨out,s⟩:=x;obtain⟨i1,i2,i3⟩:=hi;simp only at i1 i2 i3 ⊢;have hkl:k<R.length:=hlt;have hkL:k<L.length:=by omega
   obtain⟨r,hr⟩:∃r,R[k]=r:=⟨_,rfl⟩
   obtain⟨v,hv2⟩:∃r,L[k]=r:=⟨_,rfl⟩
   have hrd:R.getD k default=r:=by rw[List.getD_eq_getElem?_getD,List.getElem?_eq_getElem hkl,hr];rfl
   have hvd:aQ L k=v:=by rw[bO hkL,hv2]
   have hw:IntKind.i64.wrap ((k:Int)+1)=k+1:=am (by omega) (by omega)
   have hst:lnL R L (k+1)=lnS r v (out,s):=by rw[lnL,i3];simp only[hrd,hvd]
   have hfr:=lf v;obtain⟨fb,hfb⟩:∃b,bJ v=b:=⟨_,rfl⟩
   rw[hfb] at hfr;have hol:out.length<=8589934591:=by omega
   have hvb:fb=false-> -35184372088832<=v/\v<=35184372088832:=λh=>by rw[<-hfb] at h;simp[bJ] at h;omega
   unfold Sm.near at i2;replace H:=And.intro hlt (And.intro hkl (And.intro hkL (And.intro hr (And.intro hv2 (And.intro hw (And.intro hol H))))));refine WpC.seq ?_;refine WpC.block ?_;refine zR ?_;refine WpC.seq ?_;refine zR ?_;refine zC (λc35=>?_) (λc35=>?_)
   ·have c35':=zN c35;have hst0:lnL R L (k+1)=some (out,s):=by rw[hst,lnS,if_pos c35]
    replace H:=And.intro c35 H;refine WpC.exit ?_;refine zr ?_;exact⟨hlt,⟨out,s⟩,⟨by simp only;omega,by unfold Sm.near;simp only;omega,hst0⟩,Gh.cut' [10,28,5,7,11,26,27] 5 (by simp -implicitDefEqProofs[H,c35']) (by simp -implicitDefEqProofs[H,c35']) rfl (by simp) (by simp) (by simp)⟩
   have c35':=zN c35;rw[lnS,if_neg (by rw[c35];decide),hfb] at hst
   replace H:=And.intro c35 H;refine WpC.skip ?_;refine WpC.seq ?_;refine WpC.seq ?_;refine WpC.region ?_;refine zO 4 ?_;refine zG lB (hfr) ?_;refine WpO.nil ?_;refine zC (λc40=>?_) (λc40=>?_)
   ·have c40':=zN c40;rw[if_pos c40] at hst;have hall:=wP hst R.length (by omega)
    rw[hall,lnR] at hS0;replace H:=And.intro c40 H;refine zR ?_;refine WpC.ret ?_;try simp only[aa,aj]
    refine zE ?_;subst hS0;simp
   have c40':=zN c40;rw[if_neg (by rw[c40];decide)] at hst
   have hst1:lnL R L (k+1)=some (out++[⟨r.kind,r.name,v⟩],lnK r v s):=hst;have hvb2:=hvb c40;have hw1:IntKind.i64.wrap (s.gross+v)=s.gross+v:=am (by omega) (by omega)
   have hw2:IntKind.i64.wrap (s.pretax+v)=s.pretax+v:=am (by omega) (by omega)
   have hw3:IntKind.i64.wrap (s.post+v)=s.post+v:=am (by omega) (by omega)
   replace H:=And.intro c40 (And.intro hw1 (And.intro hw2 (And.intro hw3 H)));refine WpC.skip ?_;refine WpC.seq ?_;refine zR ?_;refine WpC.block ?_;refine zR ?_;refine zC (λc44=>?_) (λc44=>?_)
   ·have c44':=zN c44;replace H:=And.intro c44 H;refine WpC.drawn tabOk (by kernel_rfl) 0 (by simp) ?_
    iterate 3 refine yO 3 ?_
    refine DrO.nil ⟨by kernel_rfl,?_⟩
    refine WpC.drawn tabOk (by kernel_rfl) 2 (by simp) ?_
    iterate 4 refine yO 3 ?_
    refine yO 1 ?_;refine DrO.nil ⟨by kernel_rfl,?_⟩
    refine zr ?_;exact⟨hlt,⟨out++[⟨r.kind,r.name,v⟩],⟨s.gross+v,s.pretax,s.post⟩⟩,⟨by simp;omega,by unfold Sm.near;simp only;omega,by rw[hst1,lnK,if_pos c44]⟩,Gh.pick [10,28,5,7,11,26,27] [0,1,2,3,7] (by simp -implicitDefEqProofs[H,c35',c40',c44'];rfl) (by simp -implicitDefEqProofs[H,c35',c40',c44']) (by simp) (by simp) (by simp;rfl) (by simp -implicitDefEqProofs[H,c35',c40',c44']) (by simp)⟩
   have c44':=zN c44;replace H:=And.intro c44 H;refine zR ?_;refine zC (λc54=>?_) (λc54=>?_)
   ·have c54':=zN c54;replace H:=And.intro c54 H;refine WpC.drawn tabOk (by kernel_rfl) 0 (by simp) ?_
    iterate 3 refine yO 3 ?_
    refine DrO.nil ⟨by kernel_rfl,?_⟩
    refine WpC.drawn tabOk (by kernel_rfl) 2 (by simp) ?_
    iterate 4 refine yO 3 ?_
    refine yO 1 ?_;refine DrO.nil ⟨by kernel_rfl,?_⟩
    refine zr ?_;exact⟨hlt,⟨out++[⟨r.kind,r.name,v⟩],⟨s.gross,s.pretax+v,s.post⟩⟩,⟨by simp;omega,by unfold Sm.near;simp only;omega,by rw[hst1,lnK,if_neg (by rw[c44];decide),if_pos c54]⟩,Gh.pick [10,28,5,7,11,26,27] [0,1,2,3,7] (by simp -implicitDefEqProofs[H,c35',c40',c44',c54'];rfl) (by simp -implicitDefEqProofs[H,c35',c40',c44',c54']) (by simp) (by simp) (by simp;rfl) (by simp -implicitDefEqProofs[H,c35',c40',c44',c54']) (by simp)⟩
   have c54':=zN c54;replace H:=And.intro c54 H;refine zR ?_;refine zC (λc64=>?_) (λc64=>?_)
   ·have c64':=zN c64;replace H:=And.intro c64 H;refine WpC.drawn tabOk (by kernel_rfl) 0 (by simp) ?_
    iterate 3 refine yO 3 ?_
    refine DrO.nil ⟨by kernel_rfl,?_⟩
    refine WpC.drawn tabOk (by kernel_rfl) 2 (by simp) ?_
    iterate 4 refine yO 3 ?_
    refine yO 1 ?_;refine DrO.nil ⟨by kernel_rfl,?_⟩
    refine zr ?_;exact⟨hlt,⟨out++[⟨r.kind,r.name,v⟩],⟨s.gross,s.pretax,s.post+v⟩⟩,⟨by simp;omega,by unfold Sm.near;simp only;omega,by rw[hst1,lnK,if_neg (by rw[c44];decide),if_neg (by rw[c54];decide),if_pos c64]⟩,Gh.pick [10,28,5,7,11,26,27] [0,1,2,3,7] (by simp -implicitDefEqProofs[H,c35',c40',c44',c54',c64'];rfl) (by simp -implicitDefEqProofs[H,c35',c40',c44',c54',c64']) (by simp) (by simp) (by simp;rfl) (by simp -implicitDefEqProofs[H,c35',c40',c44',c54',c64']) (by simp)⟩
   have c64':=zN c64;replace H:=And.intro c64 H;refine WpC.skip ?_;refine WpC.drawn tabOk (by kernel_rfl) 2 (by simp) ?_
   iterate 4 refine yO 3 ?_
   refine yO 1 ?_;refine DrO.nil ⟨by kernel_rfl,?_⟩
   refine zr ?_;exact⟨hlt,⟨out++[⟨r.kind,r.name,v⟩],s⟩,⟨by simp;omega,by unfold Sm.near;simp only;omega,by rw[hst1,lnK,if_neg (by rw[c44];decide),if_neg (by rw[c54];decide),if_neg (by rw[c64];decide)]⟩,Gh.pick [10,28,5,7,11,26,27] [0,1,2,3,7] (by simp -implicitDefEqProofs[H,c35',c40',c44',c54',c64'];rfl) (by simp -implicitDefEqProofs[H,c35',c40',c44',c54',c64']) (by simp) (by simp) (by simp;rfl) (by simp -implicitDefEqProofs[H,c35',c40',c44',c54',c64']) (by simp)⟩
  refine WpC.exit ?_;have hkn:k=R.length:=by omega
  subst hkn;obtain⟨out,s⟩:=x;obtain⟨i1,i2,i3⟩:=hi;simp only at i1 i2 i3 ⊢;rw[i3,lnR] at hS0;refine WpC.seq (WpC.drawn tabOk (by kernel_rfl) 0 (by simp) (DrO.run (K:=_) (fz:=[]) (l':=[]) 5 (by simp -implicitDefEqProofs[H]<;>first|rfl|exact⟨rfl,rfl,rfl⟩|exact⟨rfl,rfl,rfl,rfl⟩) (DrO.nil ⟨by kernel_rfl,?_⟩)))
  refine WpC.ret ?_;try simp only[aa,aj]
  refine zE ?_;subst hS0;simp
 ·rw[if_neg he];refine ah.enter tabOk Tryz.func20 rfl (by show 2<=89;decide) ?_
  simp only[Tryz.f20];have H:=he;refine zR ?_;refine WpC.seq ?_;refine WpC.region ?_;refine zO 2 ?_;refine zG tQ (h1) ?_;refine zO 7 ?_;refine WpO.nil ?_;refine WpC.seq ?_;refine zR ?_;refine zT ?_;refine zR ?_;refine WpC.ret ?_;try simp only[aa,aj]
  refine zE ?_;simp -implicitDefEqProofs[H]
end Go.Proofs.YtlhmejigmokbhaaGreatDoor.Pay
