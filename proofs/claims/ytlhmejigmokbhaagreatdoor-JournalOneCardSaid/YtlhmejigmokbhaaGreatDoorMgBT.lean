/- The texts JrA, JrB, one behind the other. No statement of the seed is proved here. -/
import Derived.Test.YtlhmejigmokbhaaGreatDoorMgBP
namespace Go.Proofs.YtlhmejigmokbhaaGreatDoor.Pay
open Go Go.RowKit
set_option linter.unusedVariables false
set_option linter.unusedSimpArgs false
structure Pst where
 acc:Int
 ctr:Int
 amt:Int
@[reducible] def Pst.cs (p:Pst):List D:=[dI p.acc,dI p.ctr,dI p.amt]
@[reducible] def Pst.enc (p:Pst):D:= .agg p.cs
@[reducible] def KQ (l:List Pst):D:= .list 3 (l.map Pst.enc)
structure Lb where
 per:Int
 s:Sm
 deriving DecidableEq,Inhabited
@[reducible] def Lb.cs (f:Lb):List D:=[dI f.per,dI f.s.gross,dI f.s.pretax,dI f.s.post]
@[reducible] def Lb.enc (f:Lb):D:= .agg f.cs
structure K_ where
 run:Int
 per:Int
 id:Int
 ctr:Int
 back:Int
 r:Rs
 fixes:List Lb
@[reducible] def K_.cs (e:K_):List D:=[dI e.run,dI e.per,dI e.id,dI e.ctr,dI e.back,.list 3 (e.r.lines.map Ln.enc),dI e.r.raw.gross,dI e.r.raw.pretax,dI e.r.raw.post,dI e.r.extra.gross,dI e.r.extra.pretax,dI e.r.extra.post,dI e.r.taxable,dI e.r.tax,dI e.r.taken,dI e.r.held,dI e.r.net,dI e.r.short,.list 1 (e.r.paid.map dI),.list 1 (e.r.owed.map dI),.list 1 (e.r.garn.map dI),.list 4 (e.fixes.map Lb.enc)]
@[reducible] def K_.enc (e:K_):D:= .agg e.cs
@[reducible] def Kx:TypeId:=70
@[reducible] def K2:TypeId:=47
@[reducible] def Kv:TypeId:=72
def JZ (account centre n:Int) (p:Pst):Int:=if p.acc=account/\(centre<0\/p.ctr=centre) then IntKind.i64.wrap (n+p.amt) else n
def Kr (l:List Pst) (account centre:Int):Int:=l.foldl (JZ account centre) 0
theorem KA (l:List Pst) (account centre:Int) (hl:l.length<=1000000000):ah Tryz.prog 26 [.d (KQ l),.d (dI account),.d (dI centre)] (.d (dI (Kr l account centre))):=by
 refine ah.enter tabOk Tryz.func26 rfl (by show 3<=36;decide) ?_
 simp only[Tryz.f26];have H:=trivial;iterate 2 refine zR ?_
 refine WpC.seq ?_;refine zR ?_;refine WpC.block ?_;refine WpC.loopK [1,2,10,11] [7,12] (l.length) (():Unit) (λk _=>[(7,.d (dI ((l.take k).foldl (JZ account centre) 0))),(12,.d (.int .i64 k))]) (λk _=>[]) (λk _=>True) (by simp -implicitDefEqProofs[H]<;>rfl) (Gh.cut' [7,12,1,2,10,11] 0 (by simp -implicitDefEqProofs[H]) (by simp -implicitDefEqProofs[H]) rfl (by simp) (by simp) (by simp)) (by simp) ?_
 rintro k ⟨⟩ hk hi;simp only[List.cons_append,List.nil_append];refine zR ?_;refine WpC.seq (zL (k<l.length) (λhlt=>?_) (λhge=>?_))
 ·refine WpC.skip ?_;have hst:=Kz (JZ account centre) 0 hlt;obtain⟨p,hp⟩:∃p,l[k]=p:=⟨_,rfl⟩
  rw[hp] at hst;have hw:IntKind.i64.wrap ((k:Int)+1)=k+1:=am (by omega) (by omega)
  obtain⟨a,ha⟩:∃a,(l.take k).foldl (JZ account centre) 0=a:=⟨_,rfl⟩
  rw[ha] at hst;replace H:=And.intro hlt (And.intro hp (And.intro hw (And.intro ha H)));refine WpC.seq ?_;refine WpC.block ?_;refine zR ?_;refine WpC.seq ?_;refine WpC.val 29 (.d (.bool (decide (p.acc=account/\(centre<0\/p.ctr=centre))))) ?_ ?_
  ·refine WpC.region ?_;refine zO 5 ?_;refine zS 20 (λg20=>?_) (λg20=>?_)
   ·have g20':=zN g20;replace H:=And.intro g20 H;refine zO 3 ?_;refine zS 23 (λg23=>?_) (λg23=>?_)
    ·have g23':=zN g23;replace H:=And.intro g23 H;refine zO 6 ?_;refine WpO.nil ?_;refine⟨rfl,Gh.only 29 16 ?_ (by first|rfl|simp -implicitDefEqProofs[H]) (by rfl)⟩
     simp -implicitDefEqProofs[H,g20',g23']
    have g23':=zN g23;replace H:=And.intro g23 H;refine zO 6 ?_;refine WpO.nil ?_;refine⟨rfl,Gh.only 29 16 ?_ (by first|rfl|simp -implicitDefEqProofs[H]) (by rfl)⟩
    simp -implicitDefEqProofs[H,g20',g23']
   have g20':=zN g20;replace H:=And.intro g20 H;refine zO 9 ?_;refine WpO.nil ?_;refine⟨rfl,Gh.only 29 15 ?_ (by first|rfl|simp -implicitDefEqProofs[H]) (by rfl)⟩
   simp -implicitDefEqProofs[H,g20']
  refine zD (p.acc=account/\(centre<0\/p.ctr=centre)) (λd29=>?_) (λd29=>?_)
  ·have hs1:(l.take (k+1)).foldl (JZ account centre) 0=IntKind.i64.wrap (a+p.amt):=by rw[hst,JZ,if_pos d29]
   replace H:=And.intro d29 (And.intro hs1 H);iterate 2 refine zr ?_
   exact⟨hlt,(),trivial,Gh.cut' [7,12,1,2,10,11] 0 (by simp -implicitDefEqProofs[H]) (by simp) rfl (by simp) (by simp) (by simp)⟩
  have hs1:(l.take (k+1)).foldl (JZ account centre) 0=a:=by rw[hst,JZ,if_neg d29]
  replace H:=And.intro d29 (And.intro hs1 H);refine WpC.skip ?_;refine zr ?_;exact⟨hlt,(),trivial,Gh.cut' [7,12,1,2,10,11] 0 (by simp -implicitDefEqProofs[H]) (by simp) rfl (by simp) (by simp) (by simp)⟩
 refine WpC.exit ?_;have hkn:k=l.length:=by omega
 subst hkn;refine zR ?_;refine WpC.ret ?_;try simp only[aa,aj]
 refine zE ?_;simp[Kr]
theorem J3 (l:List Int) (hl:l.length<=1000000000):ah Tryz.prog 54 [.d (.list 1 (l.map dI))] (.d (.bool (l.any bE))):=by
 obtain⟨R,hR⟩:∃R,l.any bE=R:=⟨_,rfl⟩
 rw[hR];refine ah.enter tabOk Tryz.func54 rfl (by show 1<=18;decide) ?_
 simp only[Tryz.f54];have H:=trivial;refine zR ?_;refine WpC.seq ?_;refine zR ?_;refine WpC.block ?_;refine WpC.loopK [5,6] [7] (l.length) (():Unit) (λk _=>[(7,.d (.int .i64 k))]) (λk _=>[]) (λk _=>(l.take k).any bE=false) (by simp -implicitDefEqProofs[H]<;>rfl) (Gh.cut' [7,5,6] 0 (by simp -implicitDefEqProofs[H]) (by simp -implicitDefEqProofs[H]) rfl (by simp) (by simp) (by simp)) (by simp) ?_
 rintro k ⟨⟩ hk hi;simp only[List.cons_append,List.nil_append];refine zR ?_;refine WpC.seq (zL (k<l.length) (λhlt=>?_) (λhge=>?_))
 ·refine WpC.skip ?_;have hst:=cf bE hlt;obtain⟨x,hx⟩:∃x,l[k]=x:=⟨_,rfl⟩
  have hw:IntKind.i64.wrap ((k:Int)+1)=k+1:=am (by omega) (by omega)
  have hm:x∈l:=hx▸List.getElem_mem hlt;rw[hi,hx] at hst;replace H:=And.intro hlt (And.intro hx (And.intro hw H));refine WpC.seq ?_;refine WpC.block ?_;refine zR ?_;refine WpC.seq ?_;refine WpC.val 16 (.d (.bool (bE x))) ?_ ?_
  ·refine WpC.region ?_;refine zO 3 ?_;refine zS 13 (λg13=>?_) (λg13=>?_)
   ·have g13':=zN g13;replace H:=And.intro g13 H;refine zO 3 ?_;refine WpO.nil ?_;refine⟨rfl,Gh.only 16 7 ?_ (by first|rfl|simp -implicitDefEqProofs[H]) (by rfl)⟩
    simp -implicitDefEqProofs[H,g13',bE]
   have g13':=zN g13;replace H:=And.intro g13 H;refine zO 3 ?_;refine WpO.nil ?_;refine⟨rfl,Gh.only 16 7 ?_ (by first|rfl|simp -implicitDefEqProofs[H]) (by rfl)⟩
   simp -implicitDefEqProofs[H,g13',bE]
  refine zC (λc16=>?_) (λc16=>?_)
  ·have c16':=zN c16;replace H:=And.intro c16 H;refine zR ?_;refine WpC.ret ?_;try simp only[aa,aj]
   refine zE ?_;have:l.any bE=true:=List.any_eq_true.2 ⟨x,hm,c16⟩;rw[hR] at this;simp[this]
  have c16':=zN c16;replace H:=And.intro c16 H;refine WpC.skip ?_;refine zr ?_;exact⟨hlt,(),by rw[hst];simpa using c16,Gh.cut' [7,5,6] 0 (by simp -implicitDefEqProofs[H,c16']) (by simp) rfl (by simp) (by simp) (by simp)⟩
 refine WpC.exit ?_;have hkn:k=l.length:=by omega
 subst hkn;rw[List.take_of_length_le (Nat.le_refl _),hR] at hi;refine zR ?_;refine WpC.ret ?_;try simp only[aa,aj]
 refine zE ?_;simp[hi]
def KD (r:Rs):Bool:=((([r.raw.gross,r.extra.gross,r.raw.pretax,r.extra.pretax,r.tax,r.taken,r.net,r.short].any bE||r.paid.any bE)||r.owed.any bE)||r.garn.any bE)
def J5 (p o:List Int) (i:Nat):Bool:=decide (i<p.length)&&bE (aQ p i+aQ o i)
def JY (r:Rs):Int×Int×Int×Bool:=
 if KD r=true then(0,0,0,false) else if (List.range r.owed.length).any (J5 r.paid r.owed)=true then(0,0,0,false)
 else(r.raw.gross+r.extra.gross,r.raw.pretax+r.extra.pretax,bB r.owed,!([r.raw.gross+r.extra.gross,r.raw.pretax+r.extra.pretax,bB r.owed].any bE))
theorem JT {l:List Int} (h:l.any bE=false) {n:Int} (hn:n∈l): -1125899906842624<=n/\n<=1125899906842624:=by
 have:=List.any_eq_false.1 h n hn;simp[bE] at this;omega
theorem KK (f:Nat->Bool) (k:Nat):(List.range (k+1)).any f=((List.range k).any f||f k):=by
 rw[List.range_succ,List.any_append];simp
theorem Ks {l:List Int} (h:∀n∈l,-1125899906842624<=n/\n<=1125899906842624):∀k,k<=l.length-> -(k*1125899906842624:Int)<=aJ (aQ l) k/\aJ (aQ l) k<=k*1125899906842624
 |0,_=>by
  have:aJ (aQ l) 0=0:=rfl;omega
 |k+1,hk=>by
  have h1:=Ks h k (by omega)
  have h2:=h (aQ l k) (by rw[bO hk];exact List.getElem_mem hk)
  rw[aO];omega
set_option maxHeartbeats 4000000 in
theorem KM (e:K_) (ho:e.r.owed.length<=1000) (hp:e.r.paid.length<=1000000000) (hg:e.r.garn.length<=1000000000):
 ah Tryz.prog 27 [.d e.enc] (.tup [.d (dI (JY e.r).1),.d (dI (JY e.r).2.1),.d (dI (JY e.r).2.2.1),.d (.bool (JY e.r).2.2.2)]):=by
 have f1:=J3 [e.r.raw.gross,e.r.extra.gross,e.r.raw.pretax,e.r.extra.pretax,e.r.tax,e.r.taken,e.r.net,e.r.short] (by simp)
 have f2:=J3 e.r.paid hp;have f3:=J3 e.r.owed (by omega)
 have f4:=J3 e.r.garn hg;obtain⟨T,hT⟩:∃T,JY e.r=T:=⟨_,rfl⟩
 have hT0:=hT;rw[hT];clear hT;unfold JY KD at hT0;obtain⟨b1,hb1⟩:∃b,[e.r.raw.gross,e.r.extra.gross,e.r.raw.pretax,e.r.extra.pretax,e.r.tax,e.r.taken,e.r.net,e.r.short].any bE=b:=⟨_,rfl⟩
 obtain⟨b2,hb2⟩:∃b,e.r.paid.any bE=b:=⟨_,rfl⟩
 obtain⟨b3,hb3⟩:∃b,e.r.owed.any bE=b:=⟨_,rfl⟩
 obtain⟨b4,hb4⟩:∃b,e.r.garn.any bE=b:=⟨_,rfl⟩
 rw[hb1] at f1 hT0;rw[hb2] at f2 hT0;rw[hb3] at f3 hT0;rw[hb4] at f4 hT0;obtain⟨n,hn⟩:∃n,e.r.owed.length=n:=⟨_,rfl⟩
 refine ah.enter tabOk Tryz.func27 rfl (by show 1<=102;decide) ?_
 simp only[Tryz.f27];have H:=trivial;iterate 2 refine zR ?_
 refine WpC.seq ?_;refine WpC.seq ?_;refine WpC.region ?_;refine zO 12 ?_;refine zO 9 ?_;refine zB J4 (f1) ?_;refine zO 1 ?_;refine zS 36 (λg36=>?_) (λg36=>?_)
 ·have g36':=zN g36;replace H:=And.intro g36 H;refine zO 12 ?_;refine zO 2 ?_;refine WpO.nil ?_;refine zT ?_;refine zR ?_;refine WpC.ret ?_;try simp only[aa,aj]
  refine zE ?_;rw[if_pos (by simp[g36])] at hT0;subst hT0;simp
 have g36':=zN g36;replace H:=And.intro g36 H;refine zO 2 ?_;refine zG J4 (f2) ?_;refine zO 2 ?_;refine zS 41 (λg41=>?_) (λg41=>?_)
 ·have g41':=zN g41;replace H:=And.intro g41 H;refine zO 9 ?_;refine WpO.nil ?_;refine zT ?_;refine zR ?_;refine WpC.ret ?_;try simp only[aa,aj]
  refine zE ?_;rw[if_pos (by simp[g36,g41])] at hT0;subst hT0;simp
 have g41':=zN g41;replace H:=And.intro g41 H;refine zO 2 ?_;refine zG J4 (f3) ?_;refine zO 2 ?_;refine zS 46 (λg46=>?_) (λg46=>?_)
 ·have g46':=zN g46;replace H:=And.intro g46 H;refine zO 4 ?_;refine WpO.nil ?_;refine zT ?_;refine zR ?_;refine WpC.ret ?_;try simp only[aa,aj]
  refine zE ?_;rw[if_pos (by simp[g36,g41,g46])] at hT0;subst hT0;simp
 have g46':=zN g46;replace H:=And.intro g46 H;refine zO 2 ?_;refine zG J4 (f4) ?_;refine zO 1 ?_;refine WpO.nil ?_;refine zC (λc50=>?_) (λc50=>?_)
 ·have c50':=zN c50;replace H:=And.intro c50 H;refine zR ?_;refine WpC.ret ?_;try simp only[aa,aj]
  refine zE ?_;rw[if_pos (by simp[g36,g41,g46,c50])] at hT0;subst hT0;simp
 have c50':=zN c50;have hq:((b1=false/\b2=false)/\b3=false)/\b4=false:=⟨⟨⟨g36,g41⟩,g46⟩,c50⟩;rw[if_neg (by simp[hq.1.1.1,hq.1.1.2,hq.1.2,hq.2])] at hT0
 have n1:=JT (hb1.trans hq.1.1.1) (n:=e.r.raw.gross) (by simp)
 have n2:=JT (hb1.trans hq.1.1.1) (n:=e.r.extra.gross) (by simp)
 have n3:=JT (hb1.trans hq.1.1.1) (n:=e.r.raw.pretax) (by simp)
 have n4:=JT (hb1.trans hq.1.1.1) (n:=e.r.extra.pretax) (by simp)
 have np:∀n∈e.r.paid,_:=λn hn=>JT (hb2.trans hq.1.1.2) hn
 have no:∀n∈e.r.owed,_:=λn hn=>JT (hb3.trans hq.1.2) hn
 have w1:IntKind.i64.wrap (e.r.raw.gross+e.r.extra.gross)=e.r.raw.gross+e.r.extra.gross:=am (by omega) (by omega)
 have w2:IntKind.i64.wrap (e.r.raw.pretax+e.r.extra.pretax)=e.r.raw.pretax+e.r.extra.pretax:=am (by omega) (by omega)
 have hs:=Ks no;have z0:aJ (aQ e.r.owed) 0=0:=rfl;clear f1 f2 f3 f4;replace H:=And.intro c50 (And.intro w1 (And.intro w2 (And.intro z0 H)));refine WpC.skip ?_;refine zR ?_;refine WpC.seq ?_;refine zR ?_;refine WpC.block ?_;refine WpC.loopK [6,52,53] [7,54] (e.r.owed.length) (():Unit) (λk _=>[(7,.d (dI (aJ (aQ e.r.owed) k))),(54,.d (.int .i64 k))]) (λk _=>[.cells Kx (e.cs.map .d),.cells K2 (e.r.cs.map .d)]) (λk _=>(List.range k).any (J5 e.r.paid e.r.owed)=false) (by simp -implicitDefEqProofs[H]<;>rfl) (Gh.cut' [7,54,6,52,53] 2 (by simp -implicitDefEqProofs[H]) (by simp -implicitDefEqProofs[H]) rfl (by simp) (by simp) (by simp)) (by simp) ?_
 rintro k ⟨⟩ hk hi;simp only[List.cons_append,List.nil_append];refine zR ?_;refine WpC.seq (zL (k<e.r.owed.length) (λhlt=>?_) (λhge=>?_))
 ·refine WpC.skip ?_;obtain⟨n,hnn⟩:∃n,e.r.owed[k]=n:=⟨_,rfl⟩
  have hw:IntKind.i64.wrap ((k:Int)+1)=k+1:=am (by omega) (by omega)
  have hsk:=hs k (by omega)
  have hnk: -1125899906842624<=n/\n<=1125899906842624:=hnn▸no _ (List.getElem_mem hlt);have hik:aQ e.r.owed k=n:=by rw[bO hlt,hnn]
  have hwq:IntKind.i64.wrap (aJ (aQ e.r.owed) k+n)=aJ (aQ e.r.owed) (k+1):=by rw[aO,hik];exact am (by omega) (by omega)
  obtain⟨pk,hpk⟩:∃b,J5 e.r.paid e.r.owed k=b:=⟨_,rfl⟩
  have hst:=KK (J5 e.r.paid e.r.owed) k;rw[hi,hpk] at hst;replace H:=And.intro hlt (And.intro hnn (And.intro hw (And.intro hwq H)));refine WpC.seq ?_;refine WpC.block ?_;iterate 2 refine zR ?_
  refine WpC.seq ?_;refine WpC.region ?_;refine zO 6 ?_;refine zS 67 (λg67=>?_) (λg67=>?_)
  ·have g67':=zN g67;have hkp:k<e.r.paid.length:=by simpa using g67
   obtain⟨m,hm⟩:∃m,e.r.paid[k]=m:=⟨_,rfl⟩
   have hmk: -1125899906842624<=m/\m<=1125899906842624:=hm▸np _ (List.getElem_mem hkp);have hmw:IntKind.i64.wrap (m+n)=m+n:=am (by omega) (by omega)
   have f5:=J3 [m+n] (by simp)
   have e5:[m+n].any bE=pk:=by rw[<-hpk];simp[J5,hkp,bO hkp,hm,hik]
   rw[e5] at f5;replace H:=And.intro g67 (And.intro hkp (And.intro hm (And.intro hmw H)));refine zO 8 ?_;refine zB J4 (f5) ?_;refine zO 1 ?_;refine WpO.nil ?_;refine zC (λc77=>?_) (λc77=>?_)
   ·have c77':=zN c77;replace H:=And.intro c77 H;refine zR ?_;refine WpC.ret ?_;try simp only[aa,aj]
    refine zE ?_;have:(List.range e.r.owed.length).any (J5 e.r.paid e.r.owed)=true:=List.any_eq_true.2 ⟨k,by simpa using hlt,by rw[hpk,c77]⟩
    rw[if_pos this] at hT0;subst hT0;simp
   have c77':=zN c77;replace H:=And.intro c77 H;refine WpC.skip ?_;refine zr ?_;exact⟨hlt,(),by rw[hst,c77];rfl,Gh.cut' [7,54,6,52,53] 2 (by simp -implicitDefEqProofs[H,g36',g41',g46',c50',g67',c77']) (by simp -implicitDefEqProofs[H,g36',g41',g46',c50',g67',c77']) rfl (by simp) (by simp) (by simp)⟩
  have g67':=zN g67;have e5:pk=false:=by
   have:¬k<e.r.paid.length:=by simpa using g67
   rw[<-hpk];simp[J5,this]
  replace H:=And.intro g67 (And.intro e5 H);refine zO 10 ?_;refine WpO.nil ?_;refine zF ?_;refine WpC.skip ?_;refine zr ?_;exact⟨hlt,(),by rw[hst,e5];rfl,Gh.cut' [7,54,6,52,53] 2 (by simp -implicitDefEqProofs[H,g36',g41',g46',c50',g67']) (by simp -implicitDefEqProofs[H,g36',g41',g46',c50',g67']) rfl (by simp) (by simp) (by simp)⟩
 refine WpC.exit ?_;have hkn:k=e.r.owed.length:=by omega
 subst hkn;rw[if_neg (by rw[hi];decide)] at hT0
 have f6:=J3 [e.r.raw.gross+e.r.extra.gross,e.r.raw.pretax+e.r.extra.pretax,aJ (aQ e.r.owed) e.r.owed.length] (by simp)
 refine WpC.seq (WpC.drawn tabOk (by kernel_rfl) 0 (by simp) ?_)
 iterate 5 refine yO 3 ?_
 refine yO 1 ?_;refine DrO.nil ⟨by kernel_rfl,?_⟩
 refine WpC.seq ?_;refine WpC.region ?_;refine zO 7 ?_;refine zB J4 (f6) ?_;refine zO 5 ?_;refine WpO.nil ?_;refine WpC.ret ?_;try simp only[aa,aj]
 refine zE ?_;subst hT0;simp[bB]
def J8 (o:Ord):Bool:=!(decide (o.cred<1)||decide (999<o.cred))
def Kh (r:Rs) (l:List Ord):Bool:=if 6<r.paid.length\/¬r.paid.length=r.owed.length\/l.length<r.garn.length then false else(l.take r.garn.length).all J8
theorem KW (e:K_) (l:List Ord) (hg:e.r.garn.length<=1000000000):
 ah Tryz.prog 28 [.d e.enc,.d (dz l)] (.d (.bool (Kh e.r l))):=by
 obtain⟨R,hR⟩:∃R,Kh e.r l=R:=⟨_,rfl⟩
 have hR0:=hR;rw[hR];clear hR;unfold Kh at hR0;obtain⟨np,hnp⟩:∃n,e.r.paid.length=n:=⟨_,rfl⟩
 obtain⟨no,hno⟩:∃n,e.r.owed.length=n:=⟨_,rfl⟩
 obtain⟨ng,hng⟩:∃n,e.r.garn.length=n:=⟨_,rfl⟩
 obtain⟨nl,hnl⟩:∃n,l.length=n:=⟨_,rfl⟩
 rw[hnp,hno,hng,hnl] at hR0;refine ah.enter tabOk Tryz.func28 rfl (by show 2<=51;decide) ?_
 simp only[Tryz.f28];have H:=And.intro hnp (And.intro hno (And.intro hng hnl));iterate 2 refine zR ?_
 refine WpC.seq ?_;refine WpC.seq ?_;refine WpC.val 29 (.d (.bool ((decide (6<(np:Int))||!decide ((np:Int)=no))||decide ((nl:Int)<ng)))) ?_ ?_
 ·refine WpC.region ?_;refine zO 5 ?_;refine zS 13 (λg13=>?_) (λg13=>?_)
  ·have g13':=zN g13;replace H:=And.intro g13 H;refine zO 12 ?_;refine zO 4 ?_;refine WpO.nil ?_;refine⟨rfl,Gh.only 29 22 ?_ (by first|rfl|simp -implicitDefEqProofs[H]) (by rfl)⟩
   simp -implicitDefEqProofs[H,g13']<;>omega
  have g13':=zN g13;replace H:=And.intro g13 H;refine zO 9 ?_;refine zS 22 (λg22=>?_) (λg22=>?_)
  ·have g22':=zN g22;replace H:=And.intro g22 H;refine zO 7 ?_;refine WpO.nil ?_;refine⟨rfl,Gh.only 29 23 ?_ (by first|rfl|simp -implicitDefEqProofs[H]) (by rfl)⟩
   simp -implicitDefEqProofs[H,g13',g22']<;>omega
  have g22':=zN g22;replace H:=And.intro g22 H;refine zO 7 ?_;refine WpO.nil ?_;refine⟨rfl,Gh.only 29 23 ?_ (by first|rfl|simp -implicitDefEqProofs[H]) (by rfl)⟩
  simp -implicitDefEqProofs[H,g13',g22']<;>omega
 refine zC (λc29=>?_) (λc29=>?_)
 ·have c29':=zN c29;have d29:6<np\/¬np=no\/nl<ng:=by simp only[Bool.or_eq_true,decide_eq_true_eq,Bool.not_eq_true',decide_eq_false_iff_not] at c29;omega
  rw[if_pos d29] at hR0;replace H:=And.intro c29 H;refine zR ?_;refine WpC.ret ?_;try simp only[aa,aj]
  refine zE ?_;simp[<-hR0]
 have c29':=zN c29;have d29:¬(6<np\/¬np=no\/nl<ng):=by simp only[Bool.or_eq_false_iff,decide_eq_false_iff_not,Bool.not_eq_false',decide_eq_true_eq] at c29;omega
 rw[if_neg d29] at hR0;replace H:=And.intro c29 H;refine WpC.skip ?_;refine WpC.seq ?_;refine zR ?_;refine WpC.block ?_;refine WpC.loopK [1,32] [33] (ng) (():Unit) (λk _=>[(33,.d (.int .i64 k))]) (λk _=>[]) (λk _=>(l.take k).all J8=true) (by simp -implicitDefEqProofs[H]<;>rfl) (Gh.cut' [33,1,32] 0 (by simp -implicitDefEqProofs[H]) (by simp -implicitDefEqProofs[H]) rfl (by simp) (by simp) (by simp)) (by simp) ?_
 rintro k ⟨⟩ hk hi;simp only[List.cons_append,List.nil_append];refine zR ?_;refine WpC.seq (zL (k<ng) (λhlt=>?_) (λhge=>?_))
 ·refine WpC.skip ?_;have hkl:k<l.length:=by omega
  have hkl2:k<nl:=by omega
  have hst:=KL J8 hkl;obtain⟨o,ho⟩:∃o,l[k]=o:=⟨_,rfl⟩
  have hw:IntKind.i64.wrap ((k:Int)+1)=k+1:=am (by omega) (by omega)
  rw[hi,ho] at hst;obtain⟨co,hco⟩:∃b,J8 o=b:=⟨_,rfl⟩
  rw[hco] at hst;have hco2:=hco;unfold J8 at hco2;replace H:=And.intro hlt (And.intro hkl (And.intro hkl2 (And.intro ho (And.intro hw H))));refine WpC.seq ?_;refine WpC.block ?_;refine zR ?_;refine WpC.seq ?_;refine WpC.val 49 (.d (.bool (!co))) ?_ ?_
  ·refine WpC.region ?_;refine zO 7 ?_;refine zS 42 (λg42=>?_) (λg42=>?_)
   ·have g42':=zN g42;replace H:=And.intro g42 H;refine zO 7 ?_;refine WpO.nil ?_;refine⟨rfl,Gh.only 49 15 ?_ (by first|rfl|simp -implicitDefEqProofs[H]) (by rfl)⟩
    simp -implicitDefEqProofs[H,g42',<-hco2]
   have g42':=zN g42;replace H:=And.intro g42 H;refine zO 7 ?_;refine WpO.nil ?_;refine⟨rfl,Gh.only 49 15 ?_ (by first|rfl|simp -implicitDefEqProofs[H]) (by rfl)⟩
   simp -implicitDefEqProofs[H,g42',<-hco2]
  refine zC (λc49=>?_) (λc49=>?_)
  ·have c49':=zN c49;replace H:=And.intro c49 H;refine zR ?_;refine WpC.ret ?_;try simp only[aa,aj]
   refine zE ?_;have:(l.take ng).all J8=false:=List.all_eq_false.2 ⟨l[k],List.mem_take_iff_getElem.2 ⟨k,by omega,rfl⟩,by rw[ho,hco];simpa using c49⟩
   rw[this] at hR0;simp[<-hR0]
  have c49':=zN c49;replace H:=And.intro c49 H;refine WpC.skip ?_;refine zr ?_;exact⟨hlt,(),by rw[hst];simpa using c49,Gh.cut' [33,1,32] 0 (by simp -implicitDefEqProofs[H,c29',c49']) (by simp) rfl (by simp) (by simp) (by simp)⟩
 refine WpC.exit ?_;have hkn:k=ng:=by omega
 subst hkn;rw[hi] at hR0;refine zR ?_;refine WpC.ret ?_;try simp only[aa,aj]
 refine zE ?_;simp[<-hR0]
@[reducible] def Kw:TypeId:=65
def JP (ctr sign:Int) (account n:Int):List Pst:=if n=0 then [] else [⟨account,ctr,IntKind.i64.wrap (sign*n)⟩]
theorem KH (c g a:Int):JP c g a 0=[]:=by simp[JP]
theorem KU {c g a n:Int} (h:n≠0):JP c g a n=[Pst.mk a c (IntKind.i64.wrap (g*n))]:=by simp[JP,h]
theorem JQ (c g a n:Int):(JP c g a n).length<=1:=by unfold JP;split<;>simp
theorem KV (e:K_) (sign account n:Int) (xs:List Pst) (hx:xs.length<=1000000):
 WpF Tryz.prog 29 [.d (dI account),.d (dI n),.ref 0 0,.ref 1 0,.ref 2 0] [.cells Kw [.sl 3 xs.length],.cells Kx (e.cs.map .d),.cells 3 [.d (dI sign)],.arr Kv 3 (xs.map Pst.enc)]
  (λr S=>r= .tup []/\((n=0/\S=[.cells Kw [.sl 3 xs.length],.cells Kx (e.cs.map .d),.cells 3 [.d (dI sign)],.arr Kv 3 (xs.map Pst.enc)])\/
   (n≠0/\S=[.cells Kw [.sl 4 (xs.length+1)],.cells Kx (e.cs.map .d),.cells 3 [.d (dI sign)],.gone,.arr Kv 3 ((xs++[Pst.mk account e.ctr (IntKind.i64.wrap (sign*n))]).map Pst.enc)]))):=by
 have hx2:xs.length<=8589934591:=by omega
 refine WpF.enter tabOk Tryz.func29 rfl (by show 5<=19;decide) ?_
 simp only[Tryz.f29];have H:=hx2;refine zR ?_;refine zD (¬n=0) (λd8=>?_) (λd8=>?_)
 ·replace H:=And.intro d8 H;refine WpC.region ?_;refine zO 11 ?_;refine WpO.gh (Gh.pick [] [0,1,2,3,5] (env':=[]) (S':=[.cells Kw [.sl 4 (xs.length+1)],.cells Kx (e.cs.map .d),.cells 3 [.d (dI sign)],.gone,.arr Kv 3 ((xs++[Pst.mk account e.ctr (IntKind.i64.wrap (sign*n))]).map Pst.enc)])
   rfl rfl (by decide) (by simp) (by simp;rfl) (by simp[List.take_of_length_le]) (by decide)) (WpO.nil ?_)
  simp[d8]
 replace H:=And.intro d8 H;refine WpC.skip ?_;have h2:n=0:=by omega
 simp[h2]
def Kc (e:K_) (l:List Ord) (g p o:Int) (sign:Int):List Pst:=
 JP e.ctr sign 4000 g++JP e.ctr sign 4100 o++JP e.ctr sign 1700 e.r.short++JP e.ctr sign 2000 (IntKind.i64.wrap (-e.r.net))++JP e.ctr sign 2100 (IntKind.i64.wrap (-e.r.tax))++
 ((List.range e.r.paid.length).flatMap λ(i:Nat)=>JP e.ctr sign (2200+(i:Int)) (IntKind.i64.wrap (IntKind.i64.wrap (-(aQ e.r.paid i))-aQ e.r.owed i)))++
 JP e.ctr sign 2300 (IntKind.i64.wrap (-p))++JP e.ctr sign 2400 (IntKind.i64.wrap (-e.r.taken))++
 ((List.range e.r.garn.length).flatMap λ(i:Nat)=>JP e.ctr sign (IntKind.i64.wrap (3000+((l[i]?).map Ord.cred).getD 0)) (IntKind.i64.wrap (-(aQ e.r.garn i))))
def ofO (e:K_) (sign:Int) (xs:List Pst):List Ob:=
 [.cells Kx (e.cs.map .d),.cells 3 [.d (dI sign)],.cells Kw [.sl 4 xs.length],.cells K2 (e.r.cs.map .d),.arr Kv 3 (xs.map Pst.enc)]
theorem JS {all:Array Oper} {rest:List Oper} {o:Oper} {env:List (Nat×FV)} {nt:Nat} {Q:Exit->St->Prop} {e:K_} {sign account n:Int} {xs ys:List Pst} {fx x y:Operand} {ts:Array TypeId} {d m:Nat} (hx:xs.length<=m) (hm:m<=1000000) (hy:xs++JP e.ctr sign account n=ys)
 (k:WpO Tryz.prog all rest ⟨(d,.tup [])::env,ofO e sign ys,nt,0⟩ Q) (hg:o.guard=none:=by rfl) (hd:o.dst=some d:=by rfl) (hdn:d<nt:=by decide)
 (ho:o.op= .call {callee:= .value fx,args:= #[x,y],argTypes:=ts}:=by rfl) (hf:evX ⟨env,ofO e sign xs,nt,0⟩ fx=some (.fn 29 [.ref 2 0,.ref 0 0,.ref 1 0]):=by simp)
 (hxa:evX ⟨env,ofO e sign xs,nt,0⟩ x=some (.d (dI account)):=by simp) (hya:evX ⟨env,ofO e sign xs,nt,0⟩ y=some (.d (dI n)):=by simp) (hb:kB 4 env=true:=by simp):WpO Tryz.prog all (o::rest) ⟨env,ofO e sign xs,nt,0⟩ Q:=by
 subst hy;refine WpO.callP [2,0,1,4] (xs:=[.d (dI account),.d (dI n)]) (by simp[hg]) ho hf (by show evXs _ [x,y]=_;simp only[evXs,hxa,hya,Option.bind_some,Option.map_some]) KX (Nat.zero_le _) (by decide) (by simp[ofO]) (cargs:=[.d (dI account),.d (dI n),.ref 0 0,.ref 1 0,.ref 2 0])
  (by simp[ofO]) (by simp[ofO];rfl) (by simp[ofO]) (KV e sign account n xs (by omega)) λr S1 hr=>?_
 have hb':kB 4 ((d,.tup [])::env)=true:=by simp[hb]
 obtain⟨rfl,⟨hn,rfl⟩|⟨hn,rfl⟩⟩:=hr
 ·refine⟨_,by simp[ofO,hd,hdn];rfl,?_⟩
  subst hn;rw[KH,List.append_nil] at k;exact k
 ·refine⟨_,by simp[ofO,hd,hdn];rfl,?_⟩
  rw[KU hn] at k;exact WpO.gh (Gh.pickE 4 [0,1,2,3,5] hb' (by decide) (by decide) (by simp) (by simp;rfl) (by simp[ofO]) (Nat.zero_le _)) k
theorem JX {α:Type} (f:Nat->List α) (k:Nat):(List.range (k+1)).flatMap f=(List.range k).flatMap f++f k:=by
 rw[List.range_succ,List.flatMap_append];simp
theorem J_ {α:Type} (f:Nat->List α) (h:∀i,(f i).length<=1):∀k,((List.range k).flatMap f).length<=k
 |0=>by simp
 |k+1=>by rw[JX,List.length_append];have:=J_ f h k;have:=h k;omega
theorem J0 {xs ys:List Pst} {m:Nat} (h:xs.length<=m) {c g a n:Int} (hy:xs++JP c g a n=ys):ys.length<=m+1:=by
 have:=JQ c g a n;rw[<-hy,List.length_append];omega
theorem Ki {xs:List Pst} {m:Nat} (h:xs.length<=m) (f:Nat->List Pst) (hf:∀i,(f i).length<=1) (k:Nat):(xs++(List.range k).flatMap f).length<=m+k:=by
 have:=J_ f hf k;rw[List.length_append];omega
def ofT (e:K_) (l:List Ord):List Pst×Int:=
 if (JY e.r).2.2.2=false then([],3) else if Kh e.r l=false then([],1) else(Kc e l (JY e.r).1 (JY e.r).2.1 (JY e.r).2.2.1 (if e.back=0 then 1 else -1),0)
set_option maxHeartbeats 4000000 in
theorem K0 (e:K_) (l:List Ord) (hpl:e.r.paid.length<=1000) (hol:e.r.owed.length<=1000) (hgl:e.r.garn.length<=1000):
 ah Tryz.prog 16 [.d e.enc,.d (dz l)] (.tup [.d (KQ (ofT e l).1),.d (dI (ofT e l).2)]):=by
 have h1:=KM e hol (by omega) (by omega)
 have h2:=KW e l (by omega)
 have hmay:Kh e.r l=true->e.r.paid.length=e.r.owed.length/\e.r.garn.length<=l.length:=λh=>by
  unfold Kh at h;split at h
  ·simp at h
  ·omega
 obtain⟨R,hR⟩:∃R,ofT e l=R:=⟨_,rfl⟩
 have hR0:=hR;rw[hR];clear hR;unfold ofT at hR0;obtain⟨⟨g,p,o,ok⟩,hs⟩:∃q,JY e.r=q:=⟨_,rfl⟩
 obtain⟨mp,hmp⟩:∃b,Kh e.r l=b:=⟨_,rfl⟩
 rw[hs] at h1 hR0;rw[hmp] at h2 hR0 hmay;simp only at h1 hR0;cases ok with
 |false=>
  rw[if_pos rfl] at hR0;subst hR0;refine ah.enter tabOk Tryz.func16 rfl (by show 2<=109;decide) ?_
  simp only[Tryz.f16];have H:=trivial;refine zR ?_;refine WpC.seq ?_;refine WpC.region ?_;refine zO 1 ?_;refine zG Kq (h1) ?_;refine zO 9 ?_;refine WpO.nil ?_;refine WpC.seq ?_;refine WpC.block ?_;refine zR ?_;refine zT ?_;refine zR ?_;refine WpC.ret ?_;try simp only[aa,aj]
  refine zE ?_;simp -implicitDefEqProofs[H]
 |true=>
  rw[if_neg (by simp)] at hR0
  cases mp with
  |false=>
   rw[if_pos rfl] at hR0;subst hR0;refine ah.enter tabOk Tryz.func16 rfl (by show 2<=109;decide) ?_
   simp only[Tryz.f16];have H:=trivial;refine zR ?_;refine WpC.seq ?_;refine WpC.region ?_;refine zO 1 ?_;refine zG Kq (h1) ?_;refine zO 9 ?_;refine WpO.nil ?_;refine WpC.seq ?_;refine WpC.block ?_;refine zR ?_;refine zF ?_;refine WpC.seq ?_;refine WpC.region ?_;refine zO 2 ?_;refine zG KE (h2) ?_;refine zO 2 ?_;refine WpO.nil ?_;refine zT ?_;refine zR ?_;refine WpC.ret ?_;try simp only[aa,aj]
   refine zE ?_;simp -implicitDefEqProofs[H]
  |true=>
   rw[if_neg (by simp)] at hR0
   obtain⟨hm1,hm2⟩:=hmay rfl;obtain⟨sg,hsg⟩:∃sg:Int,(if e.back=0 then(1:Int) else -1)=sg:=⟨_,rfl⟩
   rw[hsg] at hR0;have hO2:∀xs,(ofO e sg xs)[2]?=some (.cells Kw [.sl 4 xs.length]):=λ_=>rfl
   have hO3:∀xs,(ofO e sg xs)[3]?=some (.cells K2 (e.r.cs.map .d)):=λ_=>rfl
   have hO4:∀xs,(ofO e sg xs)[4]?=some (.arr Kv 3 (xs.map Pst.enc)):=λ_=>rfl
   have hO5:∀xs,(ofO e sg xs).take 5=ofO e sg xs:=λ_=>rfl
   have L0:([]:List Pst).length<=0:=Nat.le_refl _;obtain⟨x1,hx1⟩:∃x,[]++JP e.ctr sg 4000 g=x:=⟨_,rfl⟩
   have L1:=J0 L0 hx1;obtain⟨x2,hx2⟩:∃x,x1++JP e.ctr sg 4100 o=x:=⟨_,rfl⟩
   have L2:=J0 L1 hx2;obtain⟨x3,hx3⟩:∃x,x2++JP e.ctr sg 1700 e.r.short=x:=⟨_,rfl⟩
   have L3:=J0 L2 hx3;obtain⟨x4,hx4⟩:∃x,x3++JP e.ctr sg 2000 (IntKind.i64.wrap (-e.r.net))=x:=⟨_,rfl⟩
   have L4:=J0 L3 hx4;obtain⟨x5,hx5⟩:∃x,x4++JP e.ctr sg 2100 (IntKind.i64.wrap (-e.r.tax))=x:=⟨_,rfl⟩
   have L5:=J0 L4 hx5;obtain⟨f,hf⟩:∃f:Nat->List Pst,f=λ(i:Nat)=>JP e.ctr sg (2200+(i:Int)) (IntKind.i64.wrap (IntKind.i64.wrap (-(aQ e.r.paid i))-aQ e.r.owed i)):=⟨_,rfl⟩
   have hfl:∀i,(f i).length<=1:=λi=>by rw[hf];exact JQ _ _ _ _
   obtain⟨x6,hx6⟩:∃x,x5++(List.range e.r.paid.length).flatMap f=x:=⟨_,rfl⟩
   have L6:x6.length<=0+1+1+1+1+1+1000:=by have:=Ki L5 f hfl e.r.paid.length;rw[hx6] at this;omega
   obtain⟨x7,hx7⟩:∃x,x6++JP e.ctr sg 2300 (IntKind.i64.wrap (-p))=x:=⟨_,rfl⟩
   have L7:=J0 L6 hx7;obtain⟨x8,hx8⟩:∃x,x7++JP e.ctr sg 2400 (IntKind.i64.wrap (-e.r.taken))=x:=⟨_,rfl⟩
   have L8:=J0 L7 hx8;obtain⟨q,hq⟩:∃q:Nat->List Pst,q=λ(i:Nat)=>JP e.ctr sg (IntKind.i64.wrap (3000+((l[i]?).map Ord.cred).getD 0)) (IntKind.i64.wrap (-(aQ e.r.garn i))):=⟨_,rfl⟩
   have hql:∀i,(q i).length<=1:=λi=>by rw[hq];exact JQ _ _ _ _
   have hfin:Kc e l g p o sg=x8++(List.range e.r.garn.length).flatMap q:=by
    rw[<-hx8,<-hx7,<-hx6,<-hx5,<-hx4,<-hx3,<-hx2,<-hx1,hf,hq];rfl
   obtain⟨x9,hx9⟩:∃x,x8++(List.range e.r.garn.length).flatMap q=x:=⟨_,rfl⟩
   rw[hfin,hx9] at hR0;subst hR0;refine ah.enter tabOk Tryz.func16 rfl (by show 2<=109;decide) ?_
   simp only[Tryz.f16];have H:=And.intro hO2 (And.intro hO3 (And.intro hO4 hO5));refine zR ?_;refine WpC.seq ?_;refine WpC.region ?_;refine zO 1 ?_;refine zG Kq (h1) ?_;refine zO 9 ?_;refine WpO.nil ?_;refine WpC.seq ?_;refine WpC.block ?_;refine zR ?_;refine zF ?_;refine WpC.seq ?_;refine WpC.region ?_;refine zO 2 ?_;refine zG KE (h2) ?_;refine zO 2 ?_;refine WpO.nil ?_;refine zF ?_;refine WpC.skip ?_;refine zR ?_;refine WpC.seq ?_;refine zR ?_;refine WpC.join ⟨[(1,.d (dz l)),(2,.ref 0 0),(6,.d (dI g)),(7,.d (dI p)),(8,.d (dI o)),(10,.ref 1 0)],[.cells Kx (e.cs.map .d),.cells 3 [.d (dI sg)]],109,0⟩ ?_ ?_
   ·refine zD (¬e.back=0) (λd35=>?_) (λd35=>?_)
    ·have hsv:sg= -1:=by rw[<-hsg,if_neg d35]
     replace H:=And.intro d35 (And.intro hsv H);refine zr ?_;exact⟨rfl,Gh.cut' [1,2,6,7,8,10] 2 (by simp -implicitDefEqProofs[H]) (by simp -implicitDefEqProofs[H]) rfl (by simp) (by simp) (by simp)⟩
    have hsv:sg=1:=by rw[<-hsg,if_pos (by simpa using d35)]
    replace H:=And.intro d35 (And.intro hsv H);refine WpC.skip ?_;exact⟨rfl,Gh.cut' [1,2,6,7,8,10] 2 (by simp -implicitDefEqProofs[H]) (by simp -implicitDefEqProofs[H]) rfl (by simp) (by simp) (by simp)⟩
   iterate 3 refine zR ?_
   refine WpC.seq ?_;refine WpC.gh (Gh.nilCell (id:=2) (off:=0) (t:=Kw) (cs:=[.d .nil]) Kv 3 (by simp) (by simp) (by simp)) ?_
   refine WpC.gh (s':=⟨[(1,.d (dz l)),(6,.d (dI g)),(7,.d (dI p)),(8,.d (dI o)),(11,.ref 2 0),(12,.fn 29 [.ref 2 0,.ref 0 0,.ref 1 0]),(13,.ref 3 0)],ofO e sg [],109,0⟩) (Gh.cut' [1,6,7,8,11,12,13] 5 (by simp) (by simp[ofO]) rfl (by simp) (by simp[ofO]) (by simp)) ?_
   refine WpC.region ?_;refine zO 2 ?_;refine JS L0 (by omega) hx1 ?_
   refine WpO.nil ?_;refine WpC.seq ?_;refine WpC.region ?_;refine zO 2 ?_;refine JS L1 (by omega) hx2 ?_
   refine WpO.nil ?_;refine WpC.seq ?_;refine WpC.region ?_;refine zO 3 ?_;refine JS L2 (by omega) hx3 ?_
   refine WpO.nil ?_;refine WpC.seq ?_;refine WpC.region ?_;refine zO 4 ?_;refine JS L3 (by omega) hx4 ?_
   refine WpO.nil ?_;refine WpC.seq ?_;refine WpC.region ?_;refine zO 4 ?_;refine JS L4 (by omega) hx5 ?_
   refine WpO.nil ?_;refine WpC.seq ?_;refine zR ?_;refine WpC.block ?_;refine WpC.loopK [1,7,11,12,13,60,61] [62] (e.r.paid.length) (():Unit) (λk _=>[(62,.d (.int .i64 k))]) (λk _=>ofO e sg (x5++(List.range k).flatMap f)) (λk _=>True) (by simp -implicitDefEqProofs[H]<;>rfl) (Gh.cut' [62,1,7,11,12,13,60,61] 5 (by simp) (by simp[hO5]) rfl (by simp) (by simp[ofO]) (by simp)) (by simp) ?_
   rintro k ⟨⟩ hk hi;simp only[List.cons_append,List.nil_append];refine zR ?_;refine WpC.seq (zL (k<e.r.paid.length) (λhlt=>?_) (λhge=>?_))
   ·refine WpC.skip ?_;have hko:k<e.r.owed.length:=by omega
    obtain⟨n,hn⟩:∃n,e.r.paid[k]=n:=⟨_,rfl⟩
    obtain⟨m,hm⟩:∃m,e.r.owed[k]=m:=⟨_,rfl⟩
    have hfk:f k=JP e.ctr sg (2200+(k:Int)) (IntKind.i64.wrap (IntKind.i64.wrap (-n)-m)):=by rw[hf];simp only[bO hlt,bO hko,hn,hm]
    have hy:=JX f k;rw[hfk] at hy;have hw:IntKind.i64.wrap ((k:Int)+1)=k+1:=am (by omega) (by omega)
    have hw2:IntKind.i64.wrap (2200+(k:Int))=2200+k:=am (by omega) (by omega)
    replace H:=And.intro hlt (And.intro hko (And.intro hn (And.intro hm (And.intro hw (And.intro hw2 H)))));refine WpC.seq ?_;refine WpC.block ?_;refine zR ?_;refine WpC.region ?_;refine zO 11 ?_;refine JS (Ki L5 f hfl k) (by omega) (show _=x5++(List.range (k+1)).flatMap f by rw[hy,List.append_assoc]) ?_
    refine WpO.nil ?_;refine zr ?_;exact⟨hlt,(),trivial,Gh.cut' [62,1,7,11,12,13,60,61] 5 (by simp[hw]) (by simp[hO5]) rfl (by simp) (by simp[ofO]) (by simp)⟩
   refine WpC.exit ?_;have hkn:k=e.r.paid.length:=by omega
   subst hkn;rw[hx6];refine WpC.seq ?_;refine WpC.region ?_;refine zO 3 ?_;refine JS L6 (by omega) hx7 ?_
   refine WpO.nil ?_;refine WpC.seq ?_;refine WpC.region ?_;refine zO 4 ?_;refine JS L7 (by omega) hx8 ?_
   refine WpO.nil ?_;refine WpC.seq ?_;refine zR ?_;refine WpC.block ?_;refine WpC.loopK [1,11,12,90,91] [92] (e.r.garn.length) (():Unit) (λk _=>[(92,.d (.int .i64 k))]) (λk _=>ofO e sg (x8++(List.range k).flatMap q)) (λk _=>True) (by simp -implicitDefEqProofs[H]<;>rfl) (Gh.cut' [92,1,11,12,90,91] 5 (by simp) (by simp[hO5]) rfl (by simp) (by simp[ofO]) (by simp)) (by simp) ?_
   rintro k ⟨⟩ hk hi;simp only[List.cons_append,List.nil_append];refine zR ?_;refine WpC.seq (zL (k<e.r.garn.length) (λhlt=>?_) (λhge=>?_))
   ·refine WpC.skip ?_;have hko:k<l.length:=by omega
    obtain⟨n,hn⟩:∃n,e.r.garn[k]=n:=⟨_,rfl⟩
    obtain⟨o,ho⟩:∃o,l[k]=o:=⟨_,rfl⟩
    have hqk:q k=JP e.ctr sg (IntKind.i64.wrap (3000+o.cred)) (IntKind.i64.wrap (-n)):=by rw[hq];simp only[bO hlt,List.getElem?_eq_getElem hko,Option.map_some,Option.getD_some,hn,ho]
    have hy:=JX q k;rw[hqk] at hy;have hw:IntKind.i64.wrap ((k:Int)+1)=k+1:=am (by omega) (by omega)
    replace H:=And.intro hlt (And.intro hko (And.intro hn (And.intro ho (And.intro hw H))));refine WpC.seq ?_;refine WpC.block ?_;refine zR ?_;refine WpC.region ?_;refine zO 9 ?_;refine JS (Ki L8 q hql k) (by omega) (show _=x8++(List.range (k+1)).flatMap q by rw[hy,List.append_assoc]) ?_
    refine WpO.nil ?_;refine zr ?_;exact⟨hlt,(),trivial,Gh.cut' [92,1,11,12,90,91] 5 (by simp[hw]) (by simp[hO5]) rfl (by simp) (by simp[ofO]) (by simp)⟩
   refine WpC.exit ?_;have hkn:k=e.r.garn.length:=by omega
   subst hkn;rw[hx9];refine zR ?_;refine WpC.ret ?_;try simp only[aa,aj]
   refine zE ?_;simp -implicitDefEqProofs[H]
end Go.Proofs.YtlhmejigmokbhaaGreatDoor.Pay
