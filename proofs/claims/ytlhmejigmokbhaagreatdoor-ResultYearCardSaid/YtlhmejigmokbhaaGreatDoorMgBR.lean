/- The texts RsJ, RsK, one behind the other. No statement of the seed is proved here. -/
import Derived.Test.YtlhmejigmokbhaaGreatDoorMgxRsI
import Derived.Test.YtlhmejigmokbhaaGreatDoorMgBQ
namespace Go.Proofs.YtlhmejigmokbhaaGreatDoor.Pay
open Go Go.RowKit
set_option linter.unusedVariables false
set_option linter.unusedSimpArgs false
theorem nB (y:Yr) (h1:y.paid.length<=1000000000) (h2:y.owed.length<=1000000000):ah Tryz.prog 14 [.d y.enc,.d y.enc] (.d (.bool true)):=by
 refine ah.enter tabOk Tryz.func14 rfl (by show 2<=80;decide) ?_
 simp only[Tryz.f14];have H:=trivial;refine zR ?_;refine WpC.seq ?_;refine WpC.seq ?_;refine WpC.region ?_;iterate 3 refine zO 12 ?_
 refine zO 1 ?_;refine WpO.nil ?_;refine zF ?_;refine WpC.skip ?_;refine WpC.seq ?_;refine zR ?_;refine WpC.block ?_;refine WpC.loopM [2,3] [5] (λx=>y.paid.length-x) (0:Nat) (λx=>[(5,.d (dI x))]) (λx=>[.cells 55 [.d (dI y.taxable),.d (dI y.base),.d (dI y.tax),.d (.list 1 (y.paid.map dI)),.d (.list 1 (y.owed.map dI))],.cells 55 [.d (dI y.taxable),.d (dI y.base),.d (dI y.tax),.d (.list 1 (y.paid.map dI)),.d (.list 1 (y.owed.map dI))]]) (λx=>x<=y.paid.length) (by simp -implicitDefEqProofs[H]<;>rfl) (Gh.cut' [5,2,3] 2 (by simp -implicitDefEqProofs[H]) (by simp -implicitDefEqProofs[H]) rfl (by simp) (by simp) (by simp)) (Nat.zero_le _) ?_
 rintro x hi;simp only[List.cons_append,List.nil_append];refine WpC.seq ?_;refine zR ?_;refine zD ((x:Int)<(y.paid.length:Int)) (λd48=>?_) (λd48=>?_)
 ·have hx:x<y.paid.length:=by omega
  have hw:IntKind.i64.wrap ((x:Int)+1)=x+1:=am (by omega) (by omega)
  replace H:=And.intro d48 (And.intro hx (And.intro hw H));refine WpC.skip ?_;refine WpC.seq ?_;refine WpC.block ?_;refine WpC.seq (WpC.drawn tabOk (by kernel_rfl) 0 (by simp) ?_)
  iterate 3 refine yO 3 ?_
  refine yO 2 ?_;refine DrO.nil ⟨by kernel_rfl,?_⟩
  refine zF ?_;refine WpC.skip ?_;refine zr ?_;exact⟨x+1,by omega,by omega,Gh.cut' [5,2,3] 2 (by simp -implicitDefEqProofs[H]) (by simp -implicitDefEqProofs[H]) rfl (by simp) (by simp) (by simp)⟩
 replace H:=And.intro d48 H;refine WpC.exit ?_;refine WpC.seq ?_;refine zR ?_;refine WpC.block ?_;refine WpC.loopM [2,3] [6] (λx=>y.owed.length-x) (0:Nat) (λx=>[(6,.d (dI x))]) (λx=>[.cells 55 [.d (dI y.taxable),.d (dI y.base),.d (dI y.tax),.d (.list 1 (y.paid.map dI)),.d (.list 1 (y.owed.map dI))],.cells 55 [.d (dI y.taxable),.d (dI y.base),.d (dI y.tax),.d (.list 1 (y.paid.map dI)),.d (.list 1 (y.owed.map dI))]]) (λx=>x<=y.owed.length) (by simp -implicitDefEqProofs[H]<;>rfl) (Gh.cut' [6,2,3] 2 (by simp -implicitDefEqProofs[H]) (by simp -implicitDefEqProofs[H]) rfl (by simp) (by simp) (by simp)) (Nat.zero_le _) ?_
 rintro x hi;simp only[List.cons_append,List.nil_append];refine WpC.seq ?_;refine zR ?_;refine zD ((x:Int)<(y.owed.length:Int)) (λd66=>?_) (λd66=>?_)
 ·have hx:x<y.owed.length:=by omega
  have hw:IntKind.i64.wrap ((x:Int)+1)=x+1:=am (by omega) (by omega)
  replace H:=And.intro d66 (And.intro hx (And.intro hw H));refine WpC.skip ?_;refine WpC.seq ?_;refine WpC.block ?_;refine WpC.seq (WpC.drawn tabOk (by kernel_rfl) 0 (by simp) ?_)
  iterate 3 refine yO 3 ?_
  refine yO 2 ?_;refine DrO.nil ⟨by kernel_rfl,?_⟩
  refine zF ?_;refine WpC.skip ?_;refine zr ?_;exact⟨x+1,by omega,by omega,Gh.cut' [6,2,3] 2 (by simp -implicitDefEqProofs[H]) (by simp -implicitDefEqProofs[H]) rfl (by simp) (by simp) (by simp)⟩
 replace H:=And.intro d66 H;refine WpC.exit ?_;refine zR ?_;refine WpC.ret ?_;try simp only[aa,aj]
 refine zE ?_;simp -implicitDefEqProofs[H]
def R3:List Ru:=[⟨[101,97,114,110],[97],0⟩,⟨[112,114,101,116,97,120],[98],1⟩]
def X3:List Ex:=[⟨[110,97,109,101],[98,97,115,101],0,0,0,0⟩,⟨[110,97,109,101],[98,111,110,117,115],0,0,0,0⟩]
theorem Fq:bR [101,97,114,110,32,97,32,61,32,98,97,115,101,59,32,112,114,101,116,97,120,32,98,32,61,32,98,111,110,117,115,59]=(R3,X3,0,0):=by decide+kernel
theorem FI:bL R3 X3=([0,1],[1,1],0,0):=by decide+kernel
theorem Hi:cJ X3 0 eN=(1,0,0):=by decide+kernel
theorem Fy:cJ X3 1 (eN++[⟨[97],1⟩])=(1,0,0):=by decide+kernel
theorem Hk (p:Inp) (h:p.right=true):dc X3 0 (aT p)=(p.base,0):=by
 rw[dc,mO,Hi,di,h,ib];rfl
theorem FB (p:Inp) (h:p.right=true):dc X3 1 (aT p++[⟨[97],1,p.base⟩])=(p.bonus,0):=by
 have hb:ca (aT p++[⟨[97],1,p.base⟩])=eN++[⟨[97],1⟩]:=by
  have:=mO p;rw[ca,List.map_append,<-ca,this];rfl
 have hr:(aT p++[(⟨[97],1,p.base⟩:Wo)]).all cg=true:=by
  rw[List.all_append,di,h];have hb:aD p.base=true:=by simp[Inp.right] at h;exact h.1
  simp[cg,hb]
 rw[dc,hb,Fy,hr,ib];rfl
theorem Jm (p:Inp):fA R3 X3 p=if p.right=true then([p.base,p.bonus],0,0) else([],0,3):=by
 rw[fA,FI];simp only;rw[if_pos trivial,di];by_cases h:p.right=true
 ·rw[if_pos h,if_pos h];have e:dc X3 (R3.getD (0:Int).toNat default).root (aT p)=(p.base,0):=Hk p h;have e2:dc X3 (R3.getD (1:Int).toNat default).root (aT p++[⟨(R3.getD (0:Int).toNat default).name,aQ [1,1] (0:Int).toNat,p.base⟩])=(p.bonus,0):=FB p h;rw[gw,e];simp only[if_true];rw[gw,e2];simp only[if_true];rw[gw];rfl
 ·rw[if_neg h,if_neg h]
theorem wQ (p:Inp) (hf:bJ p.base=false):az R3 X3 p=if (p.right&&!bJ p.bonus)=true then([⟨[101,97,114,110],[97],p.base⟩,⟨[112,114,101,116,97,120],[98],p.bonus⟩],⟨p.base,p.bonus,0⟩,0) else([],⟨0,0,0⟩,3):=by
 rw[az,Jm p];by_cases h:p.right=true
 ·rw[if_pos h,h,Bool.true_and];simp only[if_true];have e:lnL R3 [p.base,p.bonus] 1=lnS ⟨[101,97,114,110],[97],0⟩ p.base ([],⟨0,0,0⟩):=rfl;have e1:lnL R3 [p.base,p.bonus] 1=some ([⟨[101,97,114,110],[97],p.base⟩],⟨p.base,0,0⟩):=by
   rw[e,lnS,if_neg (by decide),hf,if_neg (by decide)]
   simp[lnK]
  have e2:lnL R3 [p.base,p.bonus] R3.length=lnS ⟨[112,114,101,116,97,120],[98],1⟩ p.bonus ([⟨[101,97,114,110],[97],p.base⟩],⟨p.base,0,0⟩):=by
   show lnL R3 [p.base,p.bonus] (1+1)=_
   rw[lnL,e1];rfl
  rw[e2,lnS,if_neg (by decide)]
  cases hb:bJ p.bonus
  ·simp[lnR,lnK]
  ·simp[lnR]
 ·rw[if_neg h,show p.right=false from by simpa using h,Bool.false_and]
  simp
theorem ui (rows:List Rw) (funds:List Fd) (y:Yr) (T G:Int):(gB rows funds y T G).paid.length<=funds.length/\(gB rows funds y T G).owed.length<=funds.length:=by
 unfold gB;split
 ·simp[bP]
 ·simp[av]
structure D0 (r1 r2:Rs):Prop where
 a1:r1.taxable=r2.taxable
 a2:r1.tax=r2.tax
 a3:r1.paid=r2.paid
 a4:r1.net=r2.net
 a5:r1.short=r2.short
 a6:r1.garn=r2.garn
theorem FQ {rows:List Rw} {funds:List Fd} {prot:Int} {p:Inp} {k:Int} {y:Yr} {l:List Ord} (hb:0<=p.base/\p.base<=1099511627776) (hk:0<=k/\k<1099511627776):
 ∃r1 r2 z f,cv R3 X3 rows funds prot p ⟨k,0,0⟩ y l=(r1,z,f)/\cv R3 X3 rows funds prot ⟨p.base+k,p.bonus,p.hours,p.days,p.lead⟩ ⟨0,0,0⟩ y l=(r2,z,f)/\D0 r1 r2/\z.paid.length<=funds.length/\z.owed.length<=funds.length:=by
 have hz:(av.paid.length<=funds.length)/\av.owed.length<=funds.length:=by simp[av]
 have hn:D0 fW fW:=⟨rfl,rfl,rfl,rfl,rfl,rfl⟩;have l1:=wQ p (by simp[bJ];omega)
 have l2:=wQ ⟨p.base+k,p.bonus,p.hours,p.days,p.lead⟩ (by simp[bJ];omega)
 have hr:(⟨p.base+k,p.bonus,p.hours,p.days,p.lead⟩:Inp).right=p.right:=by
  have a:aD (p.base+k)=true:=decide_eq_true (by omega)
  have b:aD p.base=true:=decide_eq_true (by omega)
  simp only[Inp.right,a,b]
 rw[hr] at l2;simp only at l2;have f0:((bJ k||bJ 0)||bJ 0)=false:=by
  have:bJ k=false:=by simp[bJ];omega
  rw[this];decide
 have f1:((bJ 0||bJ 0)||bJ 0)=false:=by decide
 unfold cv;by_cases h1:((!dZ rows funds||decide (prot<0))||decide (1099511627776<prot))=true
 ·rw[if_pos h1,if_pos h1];exact⟨fW,fW,av,1,rfl,rfl,hn,hz⟩
 ·rw[if_neg h1,if_neg h1];by_cases h2:(p.right&&!bJ p.bonus)=true
  ·rw[if_pos h2] at l1 l2;rw[l1,l2];simp only;have nf0:¬((bJ k||bJ 0)||bJ 0)=true:=by rw[f0];decide
   have nf1:¬((bJ 0||bJ 0)||bJ 0)=true:=by rw[f1];decide
   rw[if_pos trivial,if_pos trivial,if_neg nf0,if_neg nf1];simp only[Int.add_zero,Int.sub_zero];obtain⟨T,hT⟩:∃T,p.base+k-p.bonus=T:=⟨_,rfl⟩
   rw[hT];have ht:∀C:Yr,bY C ⟨p.base,p.bonus,0⟩ ⟨k,0,0⟩ T=bY C ⟨p.base+k,p.bonus,0⟩ ⟨0,0,0⟩ T:=λC=>rfl
   rw[ht];have hD:=ui rows funds y T (p.base+k);by_cases h4:cd rows funds y T (p.base+k)=0
   ·rw[if_pos h4,if_pos h4];by_cases h5:eO (bs (bH rows funds y T (p.base+k)) T-bY (bH rows funds y T (p.base+k)) ⟨p.base+k,p.bonus,0⟩ ⟨0,0,0⟩ T) prot l=0
    ·rw[if_pos h5,if_pos h5];exact⟨_,_,_,_,rfl,rfl,⟨rfl,rfl,rfl,rfl,rfl,rfl⟩,hD⟩
    ·rw[if_neg h5,if_neg h5];exact⟨_,_,_,_,rfl,rfl,hn,hz⟩
   ·rw[if_neg h4,if_neg h4];exact⟨_,_,_,_,rfl,rfl,hn,hz⟩
  ·rw[if_neg h2] at l1 l2;rw[l1,l2];exact⟨fW,fW,av,3,rfl,rfl,hn,hz⟩
theorem vh:∀x∈X3,inE x:=λx hx=>by
 simp only[X3,List.mem_cons,List.not_mem_nil,or_false] at hx;rcases hx with rfl|rfl<;>exact in0 _ _ _ _ _
set_option maxHeartbeats 8000000 in
theorem j9 (s:List UInt8) (rows:List Rw) (funds:List Fd) (prot:Int) (p:Inp) (ex:Sm) (y:Yr) (l:List Ord) (more:Int) (hp:p.ok) (hm:0<=more):ah Tryz.prog 4 [.d (o7 s rows funds prot p ex y l),.d (.int .u64 more)] (.d (.bool true)):=by
 have haw:=iX;have hsm:=lW s rows funds prot p ex y l;have hsf:=kG (s:=s) (rows:=rows) (funds:=funds) (y:=y) (l:=l);obtain⟨sm,hsm2⟩:∃b,j4 s rows funds y l=b:=⟨_,rfl⟩
 rw[hsm2] at hsm hsf;have hk:0<=more.tmod 1099511627776/\more.tmod 1099511627776<1099511627776:=by rw[Int.tmod_eq_emod_of_nonneg hm];omega
 obtain⟨k,hke⟩:∃k,more.tmod 1099511627776=k:=⟨_,rfl⟩
 rw[hke] at hk;have hwk:IntKind.i64.wrap k=k:=am (by omega) (by omega)
 have hps:=gM [101,97,114,110,32,97,32,61,32,98,97,115,101,59,32,112,114,101,116,97,120,32,98,32,61,32,98,111,110,117,115,59] (by decide)
 rw[Fq] at hps;simp only[jF] at hps;refine ah.enter tabOk Tryz.func4 rfl (by show 2<=144;decide) ?_
 simp only[Tryz.f4];have H:=And.intro hke hwk;refine zR ?_;refine WpC.seq ?_;refine WpC.seq ?_;refine WpC.val 30 (.d (.bool (((!sm||decide (p.base<0))||decide (1099511627776<p.base))))) ?_ ?_
 ·refine WpC.region ?_;refine zO 1 ?_;refine zG xY (hsm) ?_;refine zO 2 ?_;refine zS 19 (λg19=>?_) (λg19=>?_)
  ·have g19':=zN g19;replace H:=And.intro g19 H;refine zO 11 ?_;refine WpO.nil ?_;refine⟨rfl,Gh.only 30 16 ?_ (by first|rfl|simp -implicitDefEqProofs[H]) (by rfl)⟩
   simp -implicitDefEqProofs[H,g19']
  have g19':=zN g19;replace H:=And.intro g19 H;refine zO 6 ?_;refine zS 25 (λg25=>?_) (λg25=>?_)
  ·have g25':=zN g25;replace H:=And.intro g25 H;refine zO 5 ?_;refine WpO.nil ?_;refine⟨rfl,Gh.only 30 17 ?_ (by first|rfl|simp -implicitDefEqProofs[H]) (by rfl)⟩
   simp -implicitDefEqProofs[H,g19',g25']
  have g25':=zN g25;replace H:=And.intro g25 H;refine zO 5 ?_;refine WpO.nil ?_;refine⟨rfl,Gh.only 30 17 ?_ (by first|rfl|simp -implicitDefEqProofs[H]) (by rfl)⟩
  simp -implicitDefEqProofs[H,g19',g25']
 refine zC (λc30=>?_) (λc30=>?_)
 ·have c30':=zN c30;replace H:=And.intro c30 H;refine WpC.seq ?_;refine WpC.region ?_;refine zG dw (haw) ?_;refine zO 1 ?_;refine WpO.nil ?_;refine WpC.ret ?_;try simp only[aa,aj]
  refine zE ?_;simp -implicitDefEqProofs[H]
 have c30':=zN c30;have hcc:(sm=true/\¬p.base<0)/\¬1099511627776<p.base:=by simpa using c30
 obtain⟨hs5,hr4,hf4,hl4,hy⟩:=hsf hcc.1.1;obtain⟨r1,r2,z,f,hw1,hw2,hal,hz1,hz2⟩:=FQ (rows:=rows) (funds:=funds) (prot:=prot) (p:=p) (k:=k) (y:=y) (l:=l) (by omega) hk
 have hp2:(⟨p.base+k,p.bonus,p.hours,p.days,p.lead⟩:Inp).ok:=⟨by show aC (p.base+k);unfold aC;omega,hp.2.1,hp.2.2.1,hp.2.2.2⟩
 have c1:=fQ R3 X3 rows funds prot p ⟨k,0,0⟩ y l (by decide) (by decide) vh hp (by omega) (by omega) hy (by omega)
 have c2:=fQ R3 X3 rows funds prot ⟨p.base+k,p.bonus,p.hours,p.days,p.lead⟩ ⟨0,0,0⟩ y l (by decide) (by decide) vh hp2 (by omega) (by omega) hy (by omega)
 have hwo:=pC (R:=R3) (X:=X3) (rows:=rows) (funds:=funds) (prot:=prot) (p:=p) (ex:=⟨k,0,0⟩) (y:=y) (l:=l) vh hp hy;rw[hw1] at c1 hwo;rw[hw2] at c2;simp only at c1 c2 hwo;have hwb:IntKind.i64.wrap (p.base+k)=p.base+k:=am (by omega) (by omega)
 have hsame:=nB z (by omega) (by omega)
 replace H:=And.intro c30 (And.intro hwb H);refine WpC.skip ?_;refine WpC.seq ?_;refine WpC.region ?_;refine zG iz (hps) ?_;refine zO 8 ?_;refine WpO.nil ?_;iterate 2 refine zR ?_
 refine WpC.seq ?_;refine WpC.region ?_;refine zO 9 ?_;refine zG dM (c1) ?_;refine zO 9 ?_;refine WpO.nil ?_;refine zR ?_;refine WpC.seq ?_;refine WpC.region ?_;refine zO 8 ?_;refine zG dM (c2) ?_;refine zO 9 ?_;refine WpO.nil ?_;refine WpC.seq ?_;refine WpC.seq ?_;refine WpC.val 85 (.d (.bool (!decide (f=0)))) ?_ ?_
 ·refine WpC.region ?_;refine zO 3 ?_;refine zS 82 (λg82=>?_) (λg82=>?_)
  ·have g82':=zN g82;replace H:=And.intro g82 H;refine zO 3 ?_;refine WpO.nil ?_;refine⟨rfl,Gh.only 85 7 ?_ (by first|rfl|simp -implicitDefEqProofs[H]) (by rfl)⟩
   simp -implicitDefEqProofs[H,g82']
  have g82':=zN g82;replace H:=And.intro g82 H;refine zO 3 ?_;refine WpO.nil ?_;refine⟨rfl,Gh.only 85 7 ?_ (by first|rfl|simp -implicitDefEqProofs[H]) (by rfl)⟩
  simp -implicitDefEqProofs[H,g82']
 refine zC (λc85=>?_) (λc85=>?_)
 ·have c85':=zN c85;replace H:=And.intro c85 H;refine WpC.seq ?_;refine WpC.region ?_;refine zO 4 ?_;refine zG dw (haw) ?_;refine zO 2 ?_;refine WpO.nil ?_;refine WpC.ret ?_;try simp only[aa,aj]
  refine zE ?_;simp -implicitDefEqProofs[H]
 have c85':=zN c85;have hf0:f=0:=by simpa using c85
 obtain⟨LF,g,W⟩:=hwo hf0;obtain⟨q1,q2,q3,q4,q5,q6⟩:=hal;have g1:=fT r1.paid (by have:=W.paid.1;omega) λn hn=>by have:=W.paid.2 n hn;omega
 have g2:=fT r1.garn (by rw[W.garn.1];have:=W.garn.2.1;omega) λn hn=>by have:=W.garn.2.2 n hn;omega
 have g1':=g1;have g2':=g2;rw[q3] at g1';rw[q6] at g2';have e1:bB r1.paid=bB r2.paid:=by rw[q3]
 have e2:bB r1.garn=bB r2.garn:=by rw[q6]
 rw[e1] at g1;rw[e2] at g2;clear c1 c2 hps hsm;replace H:=And.intro c85 (And.intro q1 (And.intro q2 (And.intro q4 (And.intro q5 H))));refine WpC.skip ?_;refine WpC.seq ?_;refine WpC.drawn tabOk (by kernel_rfl) 0 (by simp) ?_
 iterate 5 refine yO 3 ?_
 refine yG eo (g1) ?_;refine yO 2 ?_;refine yG eo (g1') ?_;iterate 6 refine yO 3 ?_
 refine yO 1 ?_;refine yG eo (g2) ?_;refine yO 2 ?_;refine yG eo (g2') ?_;refine yO 3 ?_;refine yO 2 ?_;refine yG tU (hsame) ?_;refine yO 2 ?_;refine yG dw (haw) ?_;refine yO 2 ?_;refine DrO.nil ⟨by kernel_rfl,?_⟩
 refine WpC.ret ?_;try simp only[aa,aj]
 refine zE ?_;simp -implicitDefEqProofs[H]
theorem E5 {rows:List Rw} (h:gv rows=true) {T:Int} (hT:0<=T) (hT2:T<=1125899906842624):0<=rD rows T/\rD rows T<=T:=by
 obtain⟨f1,_,f3,f4,f5⟩:=bM h;have key:∀k,k<rows.length->aJ (cH rows T) k=min T (dg rows k).above:=by
  intro k;induction k with
  |zero=>intro _;rw[f4];show(0:Int)=_;omega
  |succ k ih=>
   intro hk;have h1:=ih (by omega)
   have h2:=f5 k hk;rw[aO,h1];unfold cH;rw[if_pos hk];split<;>omega
 obtain⟨n,hn⟩:∃n,rows.length=n+1:=⟨rows.length-1,by omega⟩
 have hall:aJ (cH rows T) rows.length=T:=by
  rw[hn,aO,key n (by omega)]
  unfold cH;rw[if_neg (show¬n+1<rows.length by omega)]
  split<;>omega
 have hle:rD rows T<=aJ (cH rows T) rows.length:=oA λi hi=>by
  have hp:=jo h hT2 hi;have hr:=f3 i hi;have:cH rows T i*(dg rows i).rate<=cH rows T i*10000:=Int.mul_le_mul_of_nonneg_left hr.2.2 hp.1;unfold iK;omega
 refine⟨fF λi hi=>(k6 h hT2 hi).1,by omega⟩
theorem rZ {rows:List Rw} {funds:List Fd} (h:dZ rows funds=true) {x:Int} (h0:0<=x) (h1:x<=1125899906842624):(0<=(bP rows funds x x).tax/\(bP rows funds x x).tax<=x)/\(bP rows funds x x).paid.length=funds.length/\(bP rows funds x x).owed.length=funds.length/\(∀n∈(bP rows funds x x).paid,0<=n/\n<=x)/\∀n∈(bP rows funds x x).owed,0<=n/\n<=x:=by
 have hff:=cQ h;have hc:∀(r c:Int),0<=r->r<=10000->0<=c->0<=dW x c*r/10000/\dW x c*r/10000<=x:=λr c a b d=>by
  have e:0<=dW x c/\dW x c<=x:=by unfold dW;omega
  have e1:dW x c*r<=dW x c*10000:=Int.mul_le_mul_of_nonneg_left b e.1;have e2:0<=dW x c*r:=Int.mul_nonneg e.1 a;omega
 refine⟨E5 hff.1 h0 h1,by simp[bP],by simp[bP],λn hn=>?_,λn hn=>?_⟩
 ·simp only[bP,List.mem_map] at hn;obtain⟨f,hf,rfl⟩:=hn;have hp:=hff.2.2 f hf;exact hc _ _ hp.1 hp.2.1 hp.2.2.2.2
 ·simp only[bP,List.mem_map] at hn;obtain⟨f,hf,rfl⟩:=hn;have hp:=hff.2.2 f hf;exact hc _ _ hp.2.2.1 hp.2.2.2.1 hp.2.2.2.2
theorem vN (g:Nat->Int) (n:Nat):bB ((List.range n).map g)=aJ g n:=by
 have hl:((List.range n).map g).length=n:=by simp
 rw[bB,hl];refine bv λi hi=>?_
 rw[bO (by omega)]
 simp
structure Yok (Y:Yr) (t:Int) (n:Nat):Prop where
 tb:Y.taxable=t/\Y.base=t
 pl:Y.paid.length=0\/Y.paid.length=n
 ol:Y.owed.length=0\/Y.owed.length=n
 tax:0<=Y.tax/\Y.tax<=2199023255552
 paid:∀m∈Y.paid,0<=m/\m<=2199023255552
 owed:∀m∈Y.owed,0<=m/\m<=2199023255552
structure Jo (r:Rs) (D:Yr) (Y:Yr) (x:Int) (n:Nat):Prop where
 tax:r.tax=D.tax-Y.tax
 sum:bB r.paid=aJ (cq D.paid Y.paid) n
 net:r.net-r.short=x-r.tax-bB r.paid
 len:r.paid.length<=6
 paid:∀m∈r.paid,-4398046511104<=m/\m<=4398046511104
 near:(0<=r.net/\r.net<=70368744177664)/\(0<=r.short/\r.short<=70368744177664)
 sumn: -26388279066624<=bB r.paid/\bB r.paid<=26388279066624
 taxn: -2199023255552<=r.tax/\r.tax<=4398046511104
theorem jW {rows:List Rw} {funds:List Fd} (hs:dZ rows funds=true) {Y:Yr} {x t:Int} (hY:Yok Y t funds.length) (ht:0<=t/\t<=1099511627776) (hx:0<=x/\x<=2199023255552):
 ∃r,cv R1 X1 rows funds 0 ⟨x,0,0,0,false⟩ ⟨0,0,0⟩ Y []=(r,bP rows funds (t+x) (t+x),0)/\Jo r (bP rows funds (t+x) (t+x)) Y x funds.length:=by
 have hff:=cQ hs;have hl:=Fv ⟨x,0,0,0,false⟩ (by
  have a:aD x=true:=decide_eq_true (by omega)
  have b:aD 0=true:=by decide
  simp[Inp.right,a,b]) (by simp[bJ];omega)
 have hD:=rZ hs (x:=t+x) (by omega) (by omega)
 have f1:bE x=false:=by simp[bE];omega
 have f2:bE t=false:=by simp[bE];omega
 have f3:bE (t+x)=false:=by simp[bE];omega
 have hE:cd rows funds Y x x=0:=by
  rw[cd,hY.tb.1,hY.tb.2,if_neg (by rw[hs];decide),if_neg (by simp[f1,f2]),if_neg (by rw[f3];decide),if_neg ?_]
  have:=hY.pl;have:=hY.ol;omega
 obtain⟨_,_,hC,hDD⟩:=ny hE;rw[hY.tb.1,hY.tb.2] at hC hDD;obtain⟨D,hDe⟩:∃D,bP rows funds (t+x) (t+x)=D:=⟨_,rfl⟩
 rw[hDe] at hC hDD hD ⊢;have hCp:(ef D Y x x).paid=(List.range funds.length).map (cq D.paid Y.paid):=by rw[ef,hD.2.1]
 have hCt:(ef D Y x x).tax=D.tax-Y.tax:=rfl;have hsum:bB (ef D Y x x).paid=aJ (cq D.paid Y.paid) funds.length:=by rw[hCp,vN]
 have hpe:∀m∈(ef D Y x x).paid,-4398046511104<=m/\m<=4398046511104:=λm hm=>by
  rw[hCp,List.mem_map] at hm;obtain⟨i,hi,rfl⟩:=hm;have a1:=dR (B:=3298534883328) (by omega) (λn hn=>by have:=hD.2.2.2.1 n hn;omega) i
  have a2:=dR (B:=2199023255552) (by omega) (λn hn=>by have:=hY.paid n hn;omega) i
  have b1:0<=aQ D.paid i:=by
   unfold aQ;cases hq:D.paid[i]? with
   |none=>simp
   |some v=>simpa using(hD.2.2.2.1 v (List.mem_of_getElem? hq)).1
  have b2:0<=aQ Y.paid i:=by
   unfold aQ;cases hq:Y.paid[i]? with
   |none=>simp
   |some v=>simpa using(hY.paid v (List.mem_of_getElem? hq)).1
  unfold cq;split<;>omega
 have hlen:(ef D Y x x).paid.length<=6:=by rw[hCp];simpa using hff.2.1
 have hsi:=ja (B:=4398046511104) (by omega) hpe
 have hsi2:((ef D Y x x).paid.length:Int)*4398046511104<=6*4398046511104:=Int.mul_le_mul_of_nonneg_right (by omega) (by omega)
 obtain⟨C,hCe⟩:∃C,ef D Y x x=C:=⟨_,rfl⟩
 rw[hCe] at hC hCt hsum hpe hlen hsi hsi2;have htx:=hY.tax;have hdt:=hD.1;have hlw:bs C x=x-C.tax-bB C.paid:=rfl;have htk:bY C ⟨x,0,0⟩ ⟨0,0,0⟩ x=0:=by
  rw[bY];show min ((0:Int)+0) (max (bs C x) 0)=0
  omega
 have hw:=vn (R:=R1) (X:=X1) (rows:=rows) (funds:=funds) (prot:=0) (p:=⟨x,0,0,0,false⟩) (ex:=⟨0,0,0⟩) (y:=Y) (l:=[]) (G:=x) (T:=x) hs (Int.le_refl 0) (by decide) hl (by decide) (Int.add_zero x) (by show x-0-0=x;omega) hE (by rw[hC,htk,hlw];exact B1 (by omega) (by omega) (by omega))
 rw[hC,hDD,htk] at hw;refine⟨_,hw,?_⟩;have ho:d_ (bs C x-0) 0 []=[]:=by
  unfold d_;split<;>rfl
 have hz:bB []=0:=rfl;exact{
  tax:=hCt
  sum:=hsum
  net:=by
   show max (bs C x-0-bB (d_ (bs C x-0) 0 [])) 0-max (-(bs C x-0-bB (d_ (bs C x-0) 0 []))) 0=x-C.tax-bB C.paid
   rw[ho,hz,hlw];omega
  len:=hlen
  paid:=hpe
  near:=by
   show(0<=max (bs C x-0-bB (d_ (bs C x-0) 0 [])) 0/\max (bs C x-0-bB (d_ (bs C x-0) 0 [])) 0<=70368744177664)/\(0<=max (-(bs C x-0-bB (d_ (bs C x-0) 0 []))) 0/\max (-(bs C x-0-bB (d_ (bs C x-0) 0 []))) 0<=70368744177664)
   rw[ho,hz,hlw];omega
  sumn:=by show -26388279066624<=bB C.paid/\bB C.paid<=26388279066624;omega
  taxn:=by show -2199023255552<=C.tax/\C.tax<=4398046511104;omega}
theorem vo {rows:List Rw} {funds:List Fd} (hs:dZ rows funds=false) {p:Inp} {Y:Yr}:cv R1 X1 rows funds 0 p ⟨0,0,0⟩ Y []=(fW,av,1):=by
 unfold cv;rw[if_pos (by rw[hs];rfl)]
theorem FO (n:Nat):Yok av 0 n:=⟨⟨rfl,rfl⟩,.inl rfl,.inl rfl,⟨by decide,by decide⟩,by simp[av],by simp[av]⟩
theorem Ax {d1 d2:List Int} {n:Nat} (h:d1.length=n):aJ (cq d1 []) n+aJ (cq d2 d1) n=aJ (cq d2 []) n:=by
 rw[<-lU];refine bv λi hi=>?_
 have e1:¬d1.length=0:=by omega
 unfold cq;simp only[List.length_nil,e1,if_true,if_false];omega
set_option maxHeartbeats 8000000 in
theorem kU (rows:List Rw) (funds:List Fd) (a b:Int) (ha:0<=a) (hb:0<=b) (hrl:rows.length<=9223372036854775807) (hfl:funds.length<=9223372036854775807):ah Tryz.prog 7 [.d (fy rows funds),.d (.int .u64 a),.d (.int .u64 b)] (.d (.bool true)):=by
 have haw:=iX;have hx:0<=a.tmod 1099511627776/\a.tmod 1099511627776<1099511627776:=by rw[Int.tmod_eq_emod_of_nonneg ha];omega
 have hy:0<=b.tmod 1099511627776/\b.tmod 1099511627776<1099511627776:=by rw[Int.tmod_eq_emod_of_nonneg hb];omega
 obtain⟨x,hxe⟩:∃k,a.tmod 1099511627776=k:=⟨_,rfl⟩
 obtain⟨y,hye⟩:∃k,b.tmod 1099511627776=k:=⟨_,rfl⟩
 rw[hxe] at hx;rw[hye] at hy;have hwx:IntKind.i64.wrap x=x:=am (by omega) (by omega)
 have hwy:IntKind.i64.wrap y=y:=am (by omega) (by omega)
 have hwxy:IntKind.i64.wrap (x+y)=x+y:=am (by omega) (by omega)
 have hps:=gM [101,97,114,110,32,97,32,61,32,98,97,115,101,59] (by decide)
 rw[wD] at hps;simp only[jF] at hps;have hz0:aC 0:=by unfold aC;omega
 by_cases hlong:(decide ((40:Int)<rows.length)||decide ((40:Int)<funds.length))=true
 ·have hlg:=hlong;refine ah.enter tabOk Tryz.func7 rfl (by show 3<=152;decide) ?_
  simp only[Tryz.f7];have H:=hlg;refine zR ?_;refine WpC.seq ?_;refine WpC.seq ?_;refine WpC.val 31 (.d (.bool ((decide ((40:Int)<rows.length)||decide ((40:Int)<funds.length))))) ?_ ?_
  ·refine WpC.region ?_;refine zO 5 ?_;refine zS 26 (λg26=>?_) (λg26=>?_)
   ·have g26':=zN g26;replace H:=And.intro g26 H;refine zO 5 ?_;refine WpO.nil ?_;refine⟨rfl,Gh.only 31 11 ?_ (by first|rfl|simp -implicitDefEqProofs[H]) (by rfl)⟩
    simp -implicitDefEqProofs[H,g26']
   have g26':=zN g26;replace H:=And.intro g26 H;refine zO 5 ?_;refine WpO.nil ?_;refine⟨rfl,Gh.only 31 11 ?_ (by first|rfl|simp -implicitDefEqProofs[H]) (by rfl)⟩
   simp -implicitDefEqProofs[H,g26']
  refine zT ?_;refine WpC.seq ?_;refine WpC.region ?_;refine zG dw (haw) ?_;refine zO 1 ?_;refine WpO.nil ?_;refine WpC.ret ?_;try simp only[aa,aj]
  refine zE ?_;simp -implicitDefEqProofs[H]
 ·have hlf:(decide ((40:Int)<rows.length)||decide ((40:Int)<funds.length))=false:=by simpa using hlong
  have hln:rows.length<=40/\funds.length<=40:=by
   simp only[Bool.or_eq_false_iff,decide_eq_false_iff_not] at hlf;omega
  have w1:=fQ R1 X1 rows funds 0 ⟨x,0,0,0,false⟩ ⟨0,0,0⟩ av [] (by decide) (by decide) sa ⟨by show aC x;unfold aC;omega,hz0,hz0,hz0⟩ (by omega) (by omega) jt (by decide)
  have w3:=fQ R1 X1 rows funds 0 ⟨x+y,0,0,0,false⟩ ⟨0,0,0⟩ av [] (by decide) (by decide) sa ⟨by show aC (x+y);unfold aC;omega,hz0,hz0,hz0⟩ (by omega) (by omega) jt (by decide)
  have w2:=λY hY=>fQ R1 X1 rows funds 0 ⟨y,0,0,0,false⟩ ⟨0,0,0⟩ Y [] (by decide) (by decide) sa ⟨by show aC y;unfold aC;omega,hz0,hz0,hz0⟩ (by omega) (by omega) hY (by decide)
  cases hs:dZ rows funds with
  |false=>
   have w2:=w2 av jt;rw[vo hs] at w1 w2 w3;refine ah.enter tabOk Tryz.func7 rfl (by show 3<=152;decide) ?_
   simp only[Tryz.f7];have H:=And.intro hxe (And.intro hye (And.intro hwx (And.intro hwy (And.intro hwxy hlf))));refine zR ?_;refine WpC.seq ?_;refine WpC.seq ?_;refine WpC.val 31 (.d (.bool ((decide ((40:Int)<rows.length)||decide ((40:Int)<funds.length))))) ?_ ?_
   ·refine WpC.region ?_;refine zO 5 ?_;refine zS 26 (λg26=>?_) (λg26=>?_)
    ·have g26':=zN g26;replace H:=And.intro g26 H;refine zO 5 ?_;refine WpO.nil ?_;refine⟨rfl,Gh.only 31 11 ?_ (by first|rfl|simp -implicitDefEqProofs[H]) (by rfl)⟩
     simp -implicitDefEqProofs[H,g26']
    have g26':=zN g26;replace H:=And.intro g26 H;refine zO 5 ?_;refine WpO.nil ?_;refine⟨rfl,Gh.only 31 11 ?_ (by first|rfl|simp -implicitDefEqProofs[H]) (by rfl)⟩
    simp -implicitDefEqProofs[H,g26']
   refine zF ?_;refine WpC.skip ?_;refine zR ?_;refine WpC.seq ?_;refine WpC.region ?_;refine zG iz (hps) ?_;refine zO 8 ?_;refine WpO.nil ?_;refine zR ?_;refine WpC.seq ?_;refine WpC.region ?_;refine zO 5 ?_;refine WpO.data (by simp) rfl (by simp -implicitDefEqProofs[H]<;>rfl) (by simp -implicitDefEqProofs[H]<;>rfl) (by simp -implicitDefEqProofs[H]<;>rfl) dM (by simp) ((ah.le w1 (by simp[leA,FV.le,D.leL,av,eF,dz]))) (by rfl) (by simp -implicitDefEqProofs[H]<;>rfl) ?_
   refine zO 9 ?_;refine WpO.nil ?_;refine WpC.seq ?_;refine WpC.region ?_;refine zO 5 ?_;refine WpO.data (by simp) rfl (by simp -implicitDefEqProofs[H]<;>rfl) (by simp -implicitDefEqProofs[H]<;>rfl) (by simp -implicitDefEqProofs[H]<;>rfl) dM (by simp) ((ah.le w2 (by simp[leA,FV.le,D.leL,av,eF,dz]))) (by rfl) (by simp -implicitDefEqProofs[H]<;>rfl) ?_
   refine zO 9 ?_;refine WpO.nil ?_;refine WpC.seq ?_;refine WpC.region ?_;refine zO 7 ?_;refine WpO.data (by simp) rfl (by simp -implicitDefEqProofs[H]<;>rfl) (by simp -implicitDefEqProofs[H]<;>rfl) (by simp -implicitDefEqProofs[H]<;>rfl) dM (by simp) ((ah.le w3 (by simp[leA,FV.le,D.leL,av,eF,dz]))) (by rfl) (by simp -implicitDefEqProofs[H]<;>rfl) ?_
   refine zO 9 ?_;refine WpO.nil ?_;refine WpC.seq ?_;refine WpC.seq ?_;refine WpC.region ?_;refine zO 10 ?_;refine WpO.nil ?_;refine zT ?_;refine WpC.seq ?_;refine WpC.region ?_;refine zO 12 ?_;refine zO 1 ?_;refine zG dw (haw) ?_;refine zO 2 ?_;refine WpO.nil ?_;refine WpC.ret ?_;try simp only[aa,aj]
   refine zE ?_;simp -implicitDefEqProofs[H]
  |true=>
   obtain⟨r1,e1,q1⟩:=jW hs (FO funds.length) (x:=x) (by omega) (by omega)
   obtain⟨r3,e3,q3⟩:=jW hs (FO funds.length) (x:=x+y) (by omega) (by omega)
   rw[Int.zero_add] at e1 q1 e3 q3;have hd1:=rZ hs (x:=x) (by omega) (by omega)
   have hd3:=rZ hs (x:=x+y) (by omega) (by omega)
   have hyok:Yok (bP rows funds x x) x funds.length:=⟨⟨rfl,rfl⟩,.inr hd1.2.1,.inr hd1.2.2.1,by omega,λm hm=>by have:=hd1.2.2.2.1 m hm;omega,λm hm=>by have:=hd1.2.2.2.2 m hm;omega⟩
   obtain⟨r2,e2,q2⟩:=jW hs hyok (x:=y) (by omega) (by omega)
   have w2:=w2 (bP rows funds x x) ⟨by omega,λm hm=>by have:=hd1.2.2.2.1 m hm;omega,λm hm=>by have:=hd1.2.2.2.2 m hm;omega⟩
   rw[e1] at w1;rw[e2] at w2;rw[e3] at w3;simp only at w1 w2 w3;have hsa:=Ax (d1:=(bP rows funds x x).paid) (d2:=(bP rows funds (x+y) (x+y)).paid) hd1.2.1;obtain⟨z,hz⟩:∃z,bP rows funds x x=z:=⟨_,rfl⟩
   obtain⟨v,hv⟩:∃z,bP rows funds (x+y) (x+y)=z:=⟨_,rfl⟩
   rw[hz] at w1 w2 q1 q2 hsa hd1;rw[hv] at w2 w3 q2 q3 hsa hd3;have s1:=q1.sum;have s2:=q2.sum;have s3:=q3.sum;have t1:=q1.tax;have t2:=q2.tax;have t3:=q3.tax;have n1:=q1.net;have n2:=q2.net;have n3:=q3.net;have b1:=q1.near;have b2:=q2.near;have b3:=q3.near;have c1:=q1.taxn;have c2:=q2.taxn;have c3:=q3.taxn;have d1:=q1.sumn;have d2:=q2.sumn;have d3:=q3.sumn;have ht0:av.tax=0:=rfl;have hp0:av.paid=[]:=rfl;rw[ht0] at t1 t3;rw[hp0] at s1 s3;have g1:=fT r1.paid (by have:=q1.len;omega) λm hm=>by have:=q1.paid m hm;omega
   have g2:=fT r2.paid (by have:=q2.len;omega) λm hm=>by have:=q2.paid m hm;omega
   have g3:=fT r3.paid (by have:=q3.len;omega) λm hm=>by have:=q3.paid m hm;omega
   obtain⟨S1,hS1⟩:∃s,bB r1.paid=s:=⟨_,rfl⟩
   obtain⟨S2,hS2⟩:∃s,bB r2.paid=s:=⟨_,rfl⟩
   obtain⟨S3,hS3⟩:∃s,bB r3.paid=s:=⟨_,rfl⟩
   rw[hS1] at s1 n1 d1 g1;rw[hS2] at s2 n2 d2 g2;rw[hS3] at s3 n3 d3 g3;have v1:IntKind.i64.wrap (r1.tax+r2.tax)=r3.tax:=by rw[am (by omega) (by omega)];omega
   have v2:IntKind.i64.wrap (S1+S2)=S3:=by rw[am (by omega) (by omega)];omega
   obtain⟨N1,hN1⟩:∃s,r1.net-r1.short=s:=⟨_,rfl⟩
   have v3:IntKind.i64.wrap (r1.net-r1.short)=N1:=by rw[am (by omega) (by omega),hN1]
   obtain⟨N2,hN2⟩:∃s,N1+r2.net=s:=⟨_,rfl⟩
   have v4:IntKind.i64.wrap (N1+r2.net)=N2:=by rw[am (by omega) (by omega),hN2]
   obtain⟨N3,hN3⟩:∃s,N2-r2.short=s:=⟨_,rfl⟩
   have v5:IntKind.i64.wrap (N2-r2.short)=N3:=by rw[am (by omega) (by omega),hN3]
   have v6:IntKind.i64.wrap (r3.net-r3.short)=N3:=by rw[am (by omega) (by omega)];omega
   have hsame:=nB v (by omega) (by omega)
   refine ah.enter tabOk Tryz.func7 rfl (by show 3<=152;decide) ?_
   simp only[Tryz.f7];have H:=And.intro hxe (And.intro hye (And.intro hwx (And.intro hwy (And.intro hwxy (And.intro hlf (And.intro v1 (And.intro v2 (And.intro v3 (And.intro v4 (And.intro v5 v6))))))))));refine zR ?_;refine WpC.seq ?_;refine WpC.seq ?_;refine WpC.val 31 (.d (.bool ((decide ((40:Int)<rows.length)||decide ((40:Int)<funds.length))))) ?_ ?_
   ·refine WpC.region ?_;refine zO 5 ?_;refine zS 26 (λg26=>?_) (λg26=>?_)
    ·have g26':=zN g26;replace H:=And.intro g26 H;refine zO 5 ?_;refine WpO.nil ?_;refine⟨rfl,Gh.only 31 11 ?_ (by first|rfl|simp -implicitDefEqProofs[H]) (by rfl)⟩
     simp -implicitDefEqProofs[H,g26']
    have g26':=zN g26;replace H:=And.intro g26 H;refine zO 5 ?_;refine WpO.nil ?_;refine⟨rfl,Gh.only 31 11 ?_ (by first|rfl|simp -implicitDefEqProofs[H]) (by rfl)⟩
    simp -implicitDefEqProofs[H,g26']
   refine zF ?_;refine WpC.skip ?_;refine zR ?_;refine WpC.seq ?_;refine WpC.region ?_;refine zG iz (hps) ?_;refine zO 8 ?_;refine WpO.nil ?_;refine zR ?_;refine WpC.seq ?_;refine WpC.region ?_;refine zO 5 ?_;refine WpO.data (by simp) rfl (by simp -implicitDefEqProofs[H]<;>rfl) (by simp -implicitDefEqProofs[H]<;>rfl) (by simp -implicitDefEqProofs[H]<;>rfl) dM (by simp) ((ah.le w1 (by simp[leA,FV.le,D.leL,av,eF,dz]))) (by rfl) (by simp -implicitDefEqProofs[H]<;>rfl) ?_
   refine zO 9 ?_;refine WpO.nil ?_;refine WpC.seq ?_;refine WpC.region ?_;refine zO 5 ?_;refine WpO.data (by simp) rfl (by simp -implicitDefEqProofs[H]<;>rfl) (by simp -implicitDefEqProofs[H]<;>rfl) (by simp -implicitDefEqProofs[H]<;>rfl) dM (by simp) ((ah.le w2 (by simp[leA,FV.le,D.leL,av,eF,dz]))) (by rfl) (by simp -implicitDefEqProofs[H]<;>rfl) ?_
   refine zO 9 ?_;refine WpO.nil ?_;refine WpC.seq ?_;refine WpC.region ?_;refine zO 7 ?_;refine WpO.data (by simp) rfl (by simp -implicitDefEqProofs[H]<;>rfl) (by simp -implicitDefEqProofs[H]<;>rfl) (by simp -implicitDefEqProofs[H]<;>rfl) dM (by simp) ((ah.le w3 (by simp[leA,FV.le,D.leL,av,eF,dz]))) (by rfl) (by simp -implicitDefEqProofs[H]<;>rfl) ?_
   refine zO 9 ?_;refine WpO.nil ?_;refine WpC.seq ?_;refine WpC.seq ?_;refine WpC.region ?_;refine zO 10 ?_;refine WpO.nil ?_;refine zF ?_;refine WpC.skip ?_;refine WpC.seq ?_;refine WpC.drawn tabOk (by kernel_rfl) 0 (by simp) ?_
   iterate 3 refine yO 3 ?_
   refine yO 2 ?_;refine yG eo (g1) ?_;refine yO 2 ?_;refine yG eo (g2) ?_;refine yO 3 ?_;refine yG eo (g3) ?_;iterate 8 refine yO 3 ?_
   refine yG tU (hsame) ?_;refine yO 2 ?_;refine yG dw (haw) ?_;refine yO 2 ?_;refine DrO.nil ⟨by kernel_rfl,?_⟩
   refine WpC.ret ?_;try simp only[aa,aj]
   refine zE ?_;simp -implicitDefEqProofs[H]
end Go.Proofs.YtlhmejigmokbhaaGreatDoor.Pay
