/- The texts RsF, RsG, RsH, one behind the other. No statement of the seed is proved here. -/
import Derived.Test.YtlhmejigmokbhaaGreatDoorMgBP
namespace Go.Proofs.YtlhmejigmokbhaaGreatDoor.Pay
open Go Go.RowKit
set_option linter.unusedVariables false
set_option linter.unusedSimpArgs false
def Yr.okZ (y:Yr):Prop:=(-1152921504606846976<=y.tax/\y.tax<=1152921504606846976)/\(∀n∈y.paid,-1125899906842624<=n/\n<=1125899906842624)/\∀n∈y.owed,-1125899906842624<=n/\n<=1125899906842624
theorem Bg {y:Yr} (h:y.okZ):y.okY:=⟨h.1,λn hn=>by have:=h.2.1 n hn;omega,λn hn=>by have:=h.2.2 n hn;omega⟩
theorem ny {rows:List Rw} {funds:List Fd} {y:Yr} {T G:Int} (h:cd rows funds y T G=0):dZ rows funds=true/\(bE (y.taxable+T)||bE (y.base+G))=false/\bH rows funds y T G=ef (bP rows funds (y.taxable+T) (y.base+G)) y T G/\gB rows funds y T G=bP rows funds (y.taxable+T) (y.base+G):=by
 have h0:=h;unfold cd at h0;split at h0
 ·simp at h0
 ·rename_i h1;split at h0
  ·simp at h0
  ·split at h0
   ·simp at h0
   ·rename_i h3;exact⟨by simpa using h1,by simpa using h3,by rw[bH,if_pos h],by rw[gB,if_pos h]⟩
theorem tE {rows:List Rw} {funds:List Fd} {y:Yr} {T G:Int} (hy:y.okZ) (h:cd rows funds y T G=0):(-1152921504606846976<=(bH rows funds y T G).tax/\(bH rows funds y T G).tax<=1166432303488958464)/\(bH rows funds y T G).paid.length<=6/\∀n∈(bH rows funds y T G).paid,-2251799813685248<=n/\n<=2251799813685248:=by
 obtain⟨hs,hf,hc,_⟩:=ny h;rw[hc];have hff:=cQ hs;have hrg:y.taxable+T<=1125899906842624/\y.base+G<=1125899906842624:=by simp[bE] at hf;omega
 obtain⟨d1,d2,_⟩:=tB (base:=y.base+G) hs hrg.1 hrg.2;have hl:(bP rows funds (y.taxable+T) (y.base+G)).paid.length=funds.length:=by simp[bP]
 obtain⟨d,hd⟩:∃d,bP rows funds (y.taxable+T) (y.base+G)=d:=⟨_,rfl⟩
 rw[hd] at d1 d2 hl ⊢;have h1:=hy.1;refine⟨by simp only[ef];omega,by simp only[ef,List.length_map,List.length_range];omega,λn hn=>?_⟩
 simp only[ef,List.mem_map,List.mem_range] at hn;obtain⟨i,hi,rfl⟩:=hn;have a1:=dR (B:=1125899906842624) (by omega) d2 i
 have a2:=dR (B:=1125899906842624) (by omega) hy.2.1 i
 unfold cq;split<;>omega
theorem tD {net prot:Int} {l:List Ord} (h:eO net prot l=0):l.length<=8:=by
 unfold eO at h;split at h
 ·simp at h
 ·omega
set_option maxHeartbeats 16000000 in
theorem fQ (R:List Ru) (X:List Ex) (rows:List Rw) (funds:List Fd) (prot:Int) (p:Inp) (ex:Sm) (y:Yr) (l:List Ord) (hR:R.length<=500000000) (hX:X.length<=10000) (hv:∀x∈X,inE x) (hp:p.ok)
 (hrw:rows.length<=1000000000) (hfu:funds.length<=1000000000) (hy:y.okZ) (hl:l.length<=1000000):
 ah Tryz.prog 12 [.d (Hn R X rows funds prot),.d p.enc,.d ex.enc,.d y.enc,.d (dz l)] (.tup [.d (cv R X rows funds prot p ex y l).1.enc,.d (cv R X rows funds prot p ex y l).2.1.enc,.d (dI (cv R X rows funds prot p ex y l).2.2)]):=by
 have h1:=eV rows funds hrw hfu;have h2:=uI R X p hR hX hv hp;have hnr:=mi (R:=R) (X:=X) hv hp;obtain⟨S,hS⟩:∃S,cv R X rows funds prot p ex y l=S:=⟨_,rfl⟩
 have hS0:=hS;rw[hS];clear hS;unfold cv at hS0;obtain⟨sb,hsb⟩:∃b,dZ rows funds=b:=⟨_,rfl⟩
 obtain⟨⟨ls,raw,e⟩,hls⟩:∃q,az R X p=q:=⟨_,rfl⟩
 rw[hsb] at h1;rw[hls] at h2 hnr;rw[hsb,hls] at hS0;simp only at h2 hnr hS0;have hst:=AC rows funds y (raw.gross+ex.gross-raw.pretax-ex.pretax) (raw.gross+ex.gross) hrw hfu (Bg hy);have hci:=tE (rows:=rows) (funds:=funds) (T:=raw.gross+ex.gross-raw.pretax-ex.pretax) (G:=raw.gross+ex.gross) hy;obtain⟨G,hG⟩:∃G,raw.gross+ex.gross=G:=⟨_,rfl⟩
 obtain⟨T,hT⟩:∃T,G-raw.pretax-ex.pretax=T:=⟨_,rfl⟩
 rw[hG,hT] at hst hci;rw[hG,hT] at hS0;obtain⟨se,hse⟩:∃q,cd rows funds y T G=q:=⟨_,rfl⟩
 obtain⟨came,hca⟩:∃q,bH rows funds y T G=q:=⟨_,rfl⟩
 obtain⟨year,hye⟩:∃q,gB rows funds y T G=q:=⟨_,rfl⟩
 rw[hse,hca,hye] at hst;rw[hse,hca] at hci;rw[hse,hca,hye] at hS0;have f1:=lf ex.gross;have f2:=lf ex.pretax;have f3:=lf ex.post;obtain⟨b1,hb1⟩:∃b,bJ ex.gross=b:=⟨_,rfl⟩
 obtain⟨b2,hb2⟩:∃b,bJ ex.pretax=b:=⟨_,rfl⟩
 obtain⟨b3,hb3⟩:∃b,bJ ex.post=b:=⟨_,rfl⟩
 rw[hb1] at f1;rw[hb2] at f2;rw[hb3] at f3;rw[hb1,hb2,hb3] at hS0;refine ah.enter tabOk Tryz.func12 rfl (by show 5<=166;decide) ?_
 simp only[Tryz.f12];have H:=trivial;refine zR ?_;refine WpC.seq ?_;refine WpC.seq ?_;refine WpC.val 35 (.d (.bool (((!sb||decide (prot<0))||decide (1099511627776<prot))))) ?_ ?_
 ·refine WpC.region ?_;refine zO 2 ?_;refine zG fh (h1) ?_;refine zO 2 ?_;refine zS 26 (λg26=>?_) (λg26=>?_)
  ·have g26':=zN g26;replace H:=And.intro g26 H;refine zO 9 ?_;refine WpO.nil ?_;refine⟨rfl,Gh.only 35 15 ?_ (by first|rfl|simp -implicitDefEqProofs[H]) (by rfl)⟩
   simp -implicitDefEqProofs[H,g26']
  have g26':=zN g26;replace H:=And.intro g26 H;refine zO 5 ?_;refine zS 31 (λg31=>?_) (λg31=>?_)
  ·have g31':=zN g31;replace H:=And.intro g31 H;refine zO 4 ?_;refine WpO.nil ?_;refine⟨rfl,Gh.only 35 16 ?_ (by first|rfl|simp -implicitDefEqProofs[H]) (by rfl)⟩
   simp -implicitDefEqProofs[H,g26',g31']
  have g31':=zN g31;replace H:=And.intro g31 H;refine zO 4 ?_;refine WpO.nil ?_;refine⟨rfl,Gh.only 35 16 ?_ (by first|rfl|simp -implicitDefEqProofs[H]) (by rfl)⟩
  simp -implicitDefEqProofs[H,g26',g31']
 refine zC (λc35=>?_) (λc35=>?_)
 ·have c35':=zN c35;rw[if_pos c35] at hS0;replace H:=And.intro c35 H;refine zR ?_;refine WpC.ret ?_;try simp only[aa,aj]
  refine zE ?_;subst hS0;simp[fW,av]
 have c35':=zN c35;rw[if_neg (by rw[c35];decide)] at hS0
 replace H:=And.intro c35 H;refine WpC.skip ?_;refine WpC.seq ?_;refine WpC.region ?_;refine zO 3 ?_;refine zG CE (h2) ?_;refine zO 8 ?_;refine WpO.nil ?_;refine WpC.seq ?_;refine WpC.block ?_;refine zR ?_;refine zD (¬e=0) (λd46=>?_) (λd46=>?_)
 ·rw[if_neg d46] at hS0;replace H:=And.intro d46 H;refine zR ?_;refine WpC.ret ?_;try simp only[aa,aj]
  refine zE ?_;subst hS0;simp[fW,av]
 rw[if_pos (by omega)] at hS0
 replace H:=And.intro d46 H;refine WpC.seq ?_;refine WpC.val 52 (.d (.bool (((b1||b2)||b3)))) ?_ ?_
 ·refine WpC.region ?_;refine zO 2 ?_;refine zG lB (f1) ?_;refine zO 1 ?_;refine zS 56 (λg56=>?_) (λg56=>?_)
  ·have g56':=zN g56;replace H:=And.intro g56 H;refine zO 10 ?_;refine WpO.nil ?_;refine⟨rfl,Gh.only 52 15 ?_ (by first|rfl|simp -implicitDefEqProofs[H]) (by rfl)⟩
   simp -implicitDefEqProofs[H,g56']
  have g56':=zN g56;replace H:=And.intro g56 H;refine zO 2 ?_;refine zG lB (f2) ?_;refine zO 2 ?_;refine zS 61 (λg61=>?_) (λg61=>?_)
  ·have g61':=zN g61;replace H:=And.intro g61 H;refine zO 5 ?_;refine WpO.nil ?_;refine⟨rfl,Gh.only 52 16 ?_ (by first|rfl|simp -implicitDefEqProofs[H]) (by rfl)⟩
   simp -implicitDefEqProofs[H,g56',g61']
  have g61':=zN g61;replace H:=And.intro g61 H;refine zO 2 ?_;refine zG lB (f3) ?_;refine zO 2 ?_;refine WpO.nil ?_;refine⟨rfl,Gh.only 52 16 ?_ (by first|rfl|simp -implicitDefEqProofs[H]) (by rfl)⟩
  simp -implicitDefEqProofs[H,g56',g61']
 refine zC (λc52=>?_) (λc52=>?_)
 ·have c52':=zN c52;rw[if_pos c52] at hS0;replace H:=And.intro c52 H;refine zR ?_;refine WpC.ret ?_;try simp only[aa,aj]
  refine zE ?_;subst hS0;simp[fW,av]
 have c52':=zN c52;rw[if_neg (by rw[c52];decide)] at hS0
 have hbb:(b1=false/\b2=false)/\b3=false:=by simpa using c52
 have hex:(-35184372088832<=ex.gross/\ex.gross<=35184372088832)/\(-35184372088832<=ex.pretax/\ex.pretax<=35184372088832)/\(-35184372088832<=ex.post/\ex.post<=35184372088832):=by
  rw[hbb.1.1] at hb1;rw[hbb.1.2] at hb2;rw[hbb.2] at hb3;simp[bJ] at hb1 hb2 hb3;omega
 unfold Sm.near at hnr;have w1:IntKind.i64.wrap (raw.gross+ex.gross)=G:=by rw[am (by omega) (by omega),hG]
 have w2:IntKind.i64.wrap (G-raw.pretax)=G-raw.pretax:=am (by omega) (by omega)
 have w3:IntKind.i64.wrap (G-raw.pretax-ex.pretax)=T:=by rw[am (by omega) (by omega),hT]
 have hTb: -6755399441055744<=T/\T<=6755399441055744:=by omega
 replace H:=And.intro c52 (And.intro w1 (And.intro w2 (And.intro w3 H)));refine WpC.skip ?_;iterate 3 refine zR ?_
 refine WpC.seq ?_;refine WpC.region ?_;refine zO 6 ?_;refine zG CD (hst) ?_;refine zO 9 ?_;refine WpO.nil ?_;refine WpC.seq ?_;refine zR ?_;refine zD (¬se=0) (λd97=>?_) (λd97=>?_)
 ·rw[if_neg d97] at hS0;replace H:=And.intro d97 H;refine zR ?_;refine WpC.ret ?_;try simp only[aa,aj]
  refine zE ?_;subst hS0;simp[fW,av]
 have hse0:se=0:=by omega
 rw[if_pos hse0] at hS0;obtain⟨hct,hcl,hcp⟩:=hci hse0;have hsum:=sF came.paid (by omega) λn hn=>by have:=hcp n hn;omega
 have hsi:=ja (B:=2251799813685248) (by omega) hcp
 have hsi2: -13510798882111488<=bB came.paid/\bB came.paid<=13510798882111488:=by
  have:(came.paid.length:Int)*2251799813685248<=6*2251799813685248:=Int.mul_le_mul_of_nonneg_right (by omega) (by omega)
  omega
 have w4:IntKind.i64.wrap (T-came.tax)=T-came.tax:=am (by omega) (by omega)
 obtain⟨sp,hsp⟩:∃s,bB came.paid=s:=⟨_,rfl⟩
 have hlw:bs came T=T-came.tax-sp:=by rw[bs,hsp]
 rw[hsp] at hsum hsi2;obtain⟨LF,hLF⟩:∃s,T-came.tax-sp=s:=⟨_,rfl⟩
 rw[hLF] at hlw;have w5:IntKind.i64.wrap (T-came.tax-sp)=LF:=by rw[am (by omega) (by omega),hLF]
 obtain⟨PO,hPO⟩:∃s,raw.post+ex.post=s:=⟨_,rfl⟩
 have w6:IntKind.i64.wrap (raw.post+ex.post)=PO:=by rw[am (by omega) (by omega),hPO]
 have htw:bY came raw ex T=min PO (max LF 0):=by rw[bY,hPO,hlw]
 obtain⟨TK,hTK⟩:∃s,min PO (max LF 0)=s:=⟨_,rfl⟩
 rw[hTK] at htw;have hTKb: -6755399441055744<=TK/\TK<=6755399441055744:=by omega
 have w7:IntKind.i64.wrap (PO-TK)=PO-TK:=am (by omega) (by omega)
 obtain⟨L1,hL1⟩:∃s,LF-TK=s:=⟨_,rfl⟩
 have w8:IntKind.i64.wrap (LF-TK)=L1:=by rw[am (by omega) (by omega),hL1]
 have hsv:=wh L1 prot l hl;rw[vS] at hsv;rw[hlw,htw,hL1] at hS0;obtain⟨ce,hce⟩:∃s,eO L1 prot l=s:=⟨_,rfl⟩
 obtain⟨gn,hgn⟩:∃s,d_ L1 prot l=s:=⟨_,rfl⟩
 rw[hce,hgn] at hsv;rw[hce] at hS0;replace H:=And.intro d97 (And.intro w4 (And.intro w5 (And.intro w6 (And.intro hTK (And.intro w7 (And.intro w8 H))))));refine WpC.skip ?_;refine WpC.seq (WpC.drawn tabOk (by kernel_rfl) 0 (by simp) ?_)
 iterate 4 refine yO 3 ?_
 refine DrO.nil ⟨by kernel_rfl,?_⟩
 refine WpC.seq ?_;refine WpC.drawn tabOk (by kernel_rfl) 0 (by simp) ?_
 iterate 2 refine yO 3 ?_
 refine yO 1 ?_;refine yG tS (hsum) ?_;refine yO 2 ?_;refine DrO.nil ⟨by kernel_rfl,?_⟩
 iterate 4 refine zR ?_
 refine WpC.seq ?_;refine WpC.seq ?_;refine WpC.region ?_;refine zO 4 ?_;refine zG CC (hsv) ?_;refine zO 6 ?_;refine WpO.nil ?_;refine zR ?_;refine zD (¬ce=0) (λd148=>?_) (λd148=>?_)
 ·rw[if_neg d148] at hS0;replace H:=And.intro d148 H;refine zR ?_;refine WpC.ret ?_;try simp only[aa,aj]
  refine zE ?_;subst hS0;simp[fW,av]
 have hce0:eO L1 prot l=0:=by omega
 rw[if_pos (hce▸hce0)] at hS0;have hog:=oP hce0;have hl8:=tD hce0;have hcg:=(gZ hce0).2.2.1;rw[hgn] at hog;have hsum2:=sF gn (by omega) λn hn=>by have:=hog.2 n hn;omega
 have hsj:=ja (L:=gn) (B:=1125899906842624) (by omega) λn hn=>by have:=hog.2 n hn;omega
 obtain⟨sg,hsg⟩:∃s,bB gn=s:=⟨_,rfl⟩
 rw[hsg] at hsum2 hsj;have hsj2: -9007199254740992<=sg/\sg<=9007199254740992:=by
  have:(gn.length:Int)*1125899906842624<=8*1125899906842624:=Int.mul_le_mul_of_nonneg_right (by omega) (by omega)
  omega
 obtain⟨L2,hL2⟩:∃s,L1-sg=s:=⟨_,rfl⟩
 have w9:IntKind.i64.wrap (L1-sg)=L2:=by rw[am (by omega) (by omega),hL2]
 have w10:IntKind.i64.wrap (-L2)= -L2:=am (by omega) (by omega)
 replace H:=And.intro d148 (And.intro w9 (And.intro w10 H));refine WpC.skip ?_;refine WpC.seq ?_;refine WpC.region ?_;refine zO 3 ?_;refine zG tS (hsum2) ?_;refine zO 2 ?_;refine WpO.nil ?_;refine zR ?_;refine WpC.seq (WpC.drawn tabOk (by kernel_rfl) 0 (by simp) (DrO.run (K:=_) (fz:=[]) (l':=[]) 5 (by simp -implicitDefEqProofs[H]<;>first|rfl|exact⟨rfl,rfl,rfl⟩|exact⟨rfl,rfl,rfl,rfl⟩) (DrO.nil ⟨by kernel_rfl,?_⟩)))
 refine WpC.ret ?_;try simp only[aa,aj]
 refine zE ?_;subst hS0;simp[sv,hL1,hgn,hsg,hL2,hPO]
def R1:List Ru:=[⟨[101,97,114,110],[97],0⟩]
def X1:List Ex:=[⟨[110,97,109,101],[98,97,115,101],0,0,0,0⟩]
theorem wD:bR [101,97,114,110,32,97,32,61,32,98,97,115,101,59]=(R1,X1,0,0):=by decide+kernel
theorem FJ:bL R1 X1=([0],[1],0,0):=by decide+kernel
theorem mO (p:Inp):ca (aT p)=eN:=by simp[ca,aT,wsR,eN,List.range,List.range.loop]
theorem Hj:cJ X1 0 eN=(1,0,0):=by decide+kernel
theorem ib (p:Inp):aT p=[⟨[98,97,115,101],1,p.base⟩,⟨[98,111,110,117,115],1,p.bonus⟩,⟨[104,111,117,114,115],3,p.hours⟩,⟨[100,97,121,115],3,p.days⟩,⟨[108,101,97,100],4,if p.lead=true then 1 else 0⟩]:=by
 simp[aT,wsR,eN,Inp.nums,aQ,List.range,List.range.loop]
def Inp.right (p:Inp):Bool:=aD p.base&&(aD p.bonus&&(aD p.hours&&aD p.days))
theorem di (p:Inp):(aT p).all cg=p.right:=by
 rw[ib];cases h:p.lead<;>simp[cg,Inp.right,h]
theorem Hl (p:Inp) (h:p.right=true):dc X1 0 (aT p)=(p.base,0):=by
 rw[dc,mO,Hj,di,h,ib];rfl
theorem Jn (p:Inp) (h:p.right=true):fA R1 X1 p=([p.base],0,0):=by
 rw[fA,FJ];simp only;rw[if_pos trivial,di,if_pos h];have e:dc X1 (R1.getD (0:Int).toNat default).root (aT p)=(p.base,0):=Hl p h;rw[gw,e];simp only[if_true];rw[gw];rfl
theorem Fv (p:Inp) (h:p.right=true) (hf:bJ p.base=false):az R1 X1 p=([⟨[101,97,114,110],[97],p.base⟩],⟨p.base,0,0⟩,0):=by
 rw[az,Jn p h];simp only[if_true];have e:lnL R1 [p.base] R1.length=lnS ⟨[101,97,114,110],[97],0⟩ p.base ([],⟨0,0,0⟩):=rfl;rw[e,lnS,if_neg (by decide),hf,if_neg (by decide)]
 simp[lnR,lnK]
theorem vn {R:List Ru} {X:List Ex} {rows:List Rw} {funds:List Fd} {prot:Int} {p:Inp} {ex:Sm} {y:Yr} {l:List Ord} {ls:List Ln} {raw:Sm} {G T:Int} (h1:dZ rows funds=true) (h2:0<=prot) (h3:prot<=1099511627776) (h4:az R X p=(ls,raw,0))
 (h5:((bJ ex.gross||bJ ex.pretax)||bJ ex.post)=false) (hG:raw.gross+ex.gross=G) (hT:G-raw.pretax-ex.pretax=T) (h6:cd rows funds y T G=0)
 (h7:eO (bs (bH rows funds y T G) T-bY (bH rows funds y T G) raw ex T) prot l=0):
 cv R X rows funds prot p ex y l=(sv y (bH rows funds y T G) ls raw ex T prot l (bs (bH rows funds y T G) T) (bY (bH rows funds y T G) raw ex T),gB rows funds y T G,0):=by
 unfold cv;rw[h1,h4];simp only;rw[if_neg (by simp;omega),if_pos trivial,if_neg (by rw[h5];decide),hG,hT,if_pos h6,if_pos h7]
theorem jt:av.okZ:=⟨⟨by decide,by decide⟩,by simp[av],by simp[av]⟩
def r9:Rs×Yr×Int:=cv R1 X1 [⟨0,1000⟩] [] 0 ⟨10000,0,0,0,false⟩ ⟨0,0,0⟩ av []
theorem FK:(r9.2.2=0/\r9.1.tax=1000)/\(r9.1.net=9000/\r9.2.1.tax=1000)/\(r9.1.lines=[⟨[101,97,114,110],[97],10000⟩]):=by decide+kernel
theorem sa:∀x∈X1,inE x:=λx hx=>by rw[List.mem_singleton.1 hx];exact in0 _ _ _ _ _
theorem iX:ah Tryz.prog 10 [] (.d (.bool true)):=by
 have h1:=gM [101,97,114,110,32,97,32,61,32,98,97,115,101,59] (by decide)
 rw[wD] at h1;simp only[jF] at h1;have h2:=fQ R1 X1 [⟨0,1000⟩] [] 0 ⟨10000,0,0,0,false⟩ ⟨0,0,0⟩ av [] (by decide) (by decide) sa ⟨⟨by decide,by decide⟩,⟨by decide,by decide⟩,⟨by decide,by decide⟩,⟨by decide,by decide⟩⟩ (by decide) (by decide) jt (by decide)
 have hw:cv R1 X1 [⟨0,1000⟩] [] 0 ⟨10000,0,0,0,false⟩ ⟨0,0,0⟩ av []=r9:=rfl;obtain⟨⟨a1,a2⟩,⟨a3,a4⟩,a5⟩:=FK;obtain⟨⟨r,y,e⟩,ha⟩:∃a,r9=a:=⟨_,rfl⟩
 rw[ha] at a1 a2 a3 a4 a5;rw[hw,ha] at h2;simp only at a1 a2 a3 a4 a5 h2;subst a1;refine ah.enter tabOk Tryz.func10 rfl (by show 0<=56;decide) ?_
 simp only[Tryz.f10];have H:=And.intro a2 (And.intro a3 (And.intro a4 a5));refine zR ?_;refine WpC.seq ?_;refine WpC.region ?_;refine zG iz (h1) ?_;refine zO 8 ?_;refine WpO.nil ?_;refine WpC.seq ?_;refine WpC.region ?_;refine zO 8 ?_;refine WpO.gh (Gh.frz [1]) ?_;refine WpO.data (by simp) rfl (by simp -implicitDefEqProofs[H]<;>rfl) (by simp -implicitDefEqProofs[H]<;>rfl) (by simp -implicitDefEqProofs[H]<;>rfl) dM (by simp) ((ah.le h2 (by simp[leA,FV.le,D.leL,av,eF,dz]))) (by rfl) (by simp -implicitDefEqProofs[H]<;>rfl) ?_
 refine zO 9 ?_;refine WpO.nil ?_;refine WpC.seq ?_;refine WpC.region ?_;iterate 2 refine zO 12 ?_
 refine zO 8 ?_;refine WpO.nil ?_;refine WpC.ret ?_;try simp only[aa,aj]
 refine zE ?_;simp -implicitDefEqProofs[H]
theorem JL {rows:List Rw} {funds:List Fd} {T G:Int} (h:dZ rows funds=true) (hT: -1125899906842624<=T/\T<=1125899906842624) (hG: -1125899906842624<=G/\G<=1125899906842624):
 cd rows funds av T G=0/\bH rows funds av T G=ef (bP rows funds T G) av T G/\gB rows funds av T G=bP rows funds T G:=by
 have e1:av.taxable+T=T:=Int.zero_add T;have e2:av.base+G=G:=Int.zero_add G;have hf:bE T=false:=by simp[bE];omega
 have hg:bE G=false:=by simp[bE];omega
 have h0:bE 0=false:=by decide
 have hE:cd rows funds av T G=0:=by
  rw[cd,if_neg (by rw[h];decide),if_neg (by simp[av,hf,hg,h0]),e1,e2,if_neg (by rw[hf,hg];decide),if_neg (by simp[av])]
 obtain⟨_,_,h3,h4⟩:=ny hE;rw[e1,e2] at h3 h4;exact⟨hE,h3,h4⟩
theorem JE (r T:Int) (h:0<=T):rD [⟨0,r⟩] T=T*r/10000:=by
 have e:cH [⟨0,r⟩] T 0=T:=by
  unfold cH;have e0:dg [⟨0,r⟩] 0=⟨0,r⟩:=rfl;rw[e0];simp only;split
  ·omega
  ·rw[if_neg (by simp)];omega
 have e1:iK [⟨0,r⟩] T 0=T*r/10000:=by rw[iK,e];rfl
 show aJ (iK [⟨0,r⟩] T) 1=_
 rw[aO,e1];show 0+_=_
 omega
theorem B1 {L prot:Int} (h0:0<=prot) (h1:prot<=1125899906842624) (h2: -1125899906842624<=L/\L<=1125899906842624):eO L prot []=0:=by
 unfold eO;simp;omega
theorem JB {R:List Ru} {X:List Ex} {rows:List Rw} {p:Inp} {ls:List Ln} {raw:Sm} {k T:Int} (h1:dZ rows []=true) (h4:az R X p=(ls,raw,0)) (hk: -1099511627776<=k/\k<=1099511627776) (hr:raw.post=0) (hT:raw.gross-raw.pretax=T)
 (hb:0<=T/\T<=2199023255552) (hg:0<=raw.gross/\raw.gross<=2199023255552) (ht:0<=rD rows T/\rD rows T<=T):
 cv R X rows [] 0 p ⟨0,0,k⟩ av []=(⟨ls,raw,⟨0,0,k⟩,T,rD rows T,min k (T-rD rows T),k-min k (T-rD rows T),T-rD rows T-min k (T-rD rows T),0,[],[],[]⟩,⟨T,raw.gross,rD rows T,[],[]⟩,0):=by
 have hG:raw.gross+(⟨0,0,k⟩:Sm).gross=raw.gross:=Int.add_zero _;have hTT:raw.gross-raw.pretax-(⟨0,0,k⟩:Sm).pretax=T:=by show raw.gross-raw.pretax-0=T;omega
 obtain⟨s1,s2,s3⟩:=JL (rows:=rows) (funds:=[]) (T:=T) (G:=raw.gross) h1 (by omega) (by omega)
 have hC:ef (bP rows [] T raw.gross) av T raw.gross=⟨T,raw.gross,rD rows T,[],[]⟩:=by
  simp[ef,bP,av]
 have hD:bP rows [] T raw.gross=⟨T,raw.gross,rD rows T,[],[]⟩:=by simp[bP]
 rw[hC] at s2;rw[hD] at s3;have hz:bB []=0:=rfl;have hL:bs ⟨T,raw.gross,rD rows T,[],[]⟩ T=T-rD rows T:=by rw[bs,hz];simp
 have hTk:bY ⟨T,raw.gross,rD rows T,[],[]⟩ raw ⟨0,0,k⟩ T=min k (T-rD rows T):=by
  rw[bY,hL,hr];show min (0+k) _=_
  rw[Int.zero_add];omega
 have hfr:((bJ (⟨0,0,k⟩:Sm).gross||bJ (⟨0,0,k⟩:Sm).pretax)||bJ (⟨0,0,k⟩:Sm).post)=false:=by
  have:bJ k=false:=by simp[bJ];omega
  show((bJ 0||bJ 0)||bJ k)=false
  rw[this];decide
 have h:=vn (R:=R) (X:=X) (p:=p) (y:=av) (l:=[]) h1 (Int.le_refl 0) (by decide) h4 hfr hG hTT s1 (by rw[s2,hL,hTk];exact B1 (by omega) (by omega) (by omega))
 rw[h,s2,s3,hL,hTk,sv];have ho:d_ (T-rD rows T-min k (T-rD rows T)) 0 []=[]:=by
  unfold d_;split<;>rfl
 rw[ho,hz,hr];simp only[Prod.mk.injEq,Rs.mk.injEq,true_and,and_true];omega
theorem JC (a:Int) (h:0<=a):0<=a.tmod 1099511627776/\a.tmod 1099511627776<1099511627776:=by
 rw[Int.tmod_eq_emod_of_nonneg h];omega
theorem JD (a:Int): -1099511627776<a.tmod 1099511627776/\a.tmod 1099511627776<1099511627776:=⟨Int.lt_tmod_of_pos a (by decide),Int.tmod_lt_of_pos a (by decide)⟩
theorem Jy {n:Int} (h:0<=n/\n<=2199023255552):aC n/\aD n=true:=⟨by unfold aC;omega,decide_eq_true (by omega)⟩
set_option maxHeartbeats 4000000 in
theorem JA (base post:Int) (h0:0<=base):ah Tryz.prog 6 [.d (.int .u64 base),.d (dI post)] (.d (.bool true)):=by
 have hb:=JC base h0;have hk:=JD post;obtain⟨b,hbe⟩:∃b,base.tmod 1099511627776=b:=⟨_,rfl⟩
 obtain⟨k,hke⟩:∃b,post.tmod 1099511627776=b:=⟨_,rfl⟩
 rw[hbe] at hb;rw[hke] at hk;have hwb:IntKind.i64.wrap b=b:=am (by omega) (by omega)
 have h1:=gM [101,97,114,110,32,97,32,61,32,98,97,115,101,59] (by decide)
 rw[wD] at h1;simp only[jF] at h1;have hs:=Jy (n:=b) (by omega)
 have hz:=Jy (n:=0) (by omega)
 have h2:=fQ R1 X1 [⟨0,0⟩] [] 0 ⟨b,0,0,0,false⟩ ⟨0,0,k⟩ av [] (by decide) (by decide) sa ⟨hs.1,hz.1,hz.1,hz.1⟩ (by decide) (by decide) jt (by decide)
 have hl:=Fv ⟨b,0,0,0,false⟩ (by simp[Inp.right,hs.2,hz.2]) (by simp[bJ];omega)
 have ht:rD [⟨0,0⟩] b=0:=by rw[JE 0 b (by omega)];simp
 have hw:=JB (rows:=[⟨0,0⟩]) (k:=k) (T:=b) (by decide) hl (by omega) rfl (by show b-0=b;omega) (by omega) (by show 0<=b/\b<=2199023255552;omega) (by rw[ht];omega)
 rw[hw,ht] at h2;simp only[Int.sub_zero] at h2;obtain⟨m,hm⟩:∃m,min k b=m:=⟨_,rfl⟩
 rw[hm] at h2;have w1:IntKind.i64.wrap (k-m)=k-m:=am (by omega) (by omega)
 have w2:IntKind.i64.wrap (b-m)=b-m:=am (by omega) (by omega)
 have haw:=iX;refine ah.enter tabOk Tryz.func6 rfl (by show 2<=76;decide) ?_
 simp only[Tryz.f6];have H:=And.intro hbe (And.intro hke (And.intro hwb (And.intro hm (And.intro w1 w2))));iterate 2 refine zR ?_
 refine WpC.seq ?_;refine WpC.region ?_;refine zG iz (h1) ?_;refine zO 8 ?_;refine WpO.nil ?_;refine WpC.seq ?_;refine WpC.region ?_;refine zO 10 ?_;refine WpO.gh (Gh.frz [1]) ?_;refine WpO.data (by simp) rfl (by simp -implicitDefEqProofs[H]<;>rfl) (by simp -implicitDefEqProofs[H]<;>rfl) (by simp -implicitDefEqProofs[H]<;>rfl) dM (by simp) ((ah.le h2 (by simp[leA,FV.le,D.leL,av,eF,dz]))) (by rfl) (by simp -implicitDefEqProofs[H]<;>rfl) ?_
 refine zO 9 ?_;refine WpO.nil ?_;refine WpC.seq ?_;refine WpC.region ?_;iterate 3 refine zO 12 ?_
 refine zG dw (haw) ?_;refine zO 2 ?_;refine WpO.nil ?_;refine WpC.ret ?_;try simp only[aa,aj]
 refine zE ?_;simp -implicitDefEqProofs[H]
def R2:List Ru:=[⟨[101,97,114,110],[97],0⟩,⟨[112,114,101,116,97,120],[98],3⟩]
def X2p:List Ex:=[⟨[110,97,109,101],[98,97,115,101],0,0,0,0⟩,⟨[110,97,109,101],[98,97,115,101],0,0,0,0⟩,⟨[110,97,109,101],[98,111,110,117,115],0,0,0,0⟩,⟨[109,105,110],[],0,1,2,0⟩]
theorem JF:bR [101,97,114,110,32,97,32,61,32,98,97,115,101,59,32,112,114,101,116,97,120,32,98,32,61,32,109,105,110,40,98,97,115,101,44,32,98,111,110,117,115,41,59]=(R2,X2p,0,0):=by decide+kernel
theorem JJ:bL R2 X2p=([0,1],[1,1],0,0):=by decide+kernel
theorem JM:cJ X2p 0 eN=(1,0,0):=by decide+kernel
theorem JH:cJ X2p 3 (eN++[⟨[97],1⟩])=(1,0,0):=by decide+kernel
theorem JN (p:Inp) (h:p.right=true):dc X2p 0 (aT p)=(p.base,0):=by
 rw[dc,mO,JM,di,h,ib];rfl
theorem JI (p:Inp) (h:p.right=true):dc X2p 3 (aT p++[⟨[97],1,p.base⟩])=(min p.base p.bonus,0):=by
 have hb:ca (aT p++[⟨[97],1,p.base⟩])=eN++[⟨[97],1⟩]:=by
  have:=mO p;rw[ca,List.map_append,<-ca,this];rfl
 have hr:(aT p++[(⟨[97],1,p.base⟩:Wo)]).all cg=true:=by
  rw[List.all_append,di,h];have hb:aD p.base=true:=by simp[Inp.right] at h;exact h.1
  simp[cg,hb]
 rw[dc,hb,JH,hr,ib];rfl
theorem JO (p:Inp) (h:p.right=true):fA R2 X2p p=([p.base,min p.base p.bonus],0,0):=by
 rw[fA,JJ];simp only;rw[if_pos trivial,di,if_pos h];have e:dc X2p (R2.getD (0:Int).toNat default).root (aT p)=(p.base,0):=JN p h;have e2:dc X2p (R2.getD (1:Int).toNat default).root (aT p++[⟨(R2.getD (0:Int).toNat default).name,aQ [1,1] (0:Int).toNat,p.base⟩])=(min p.base p.bonus,0):=JI p h;rw[gw,e];simp only[if_true];rw[gw,e2];simp only[if_true];rw[gw];rfl
theorem JG (p:Inp) (h:p.right=true) (hf:bJ p.base=false) (hf2:bJ (min p.base p.bonus)=false):az R2 X2p p=([⟨[101,97,114,110],[97],p.base⟩,⟨[112,114,101,116,97,120],[98],min p.base p.bonus⟩],⟨p.base,min p.base p.bonus,0⟩,0):=by
 rw[az,JO p h];simp only[if_true];have e:lnL R2 [p.base,min p.base p.bonus] 1=lnS ⟨[101,97,114,110],[97],0⟩ p.base ([],⟨0,0,0⟩):=rfl;have e1:lnL R2 [p.base,min p.base p.bonus] 1=some ([⟨[101,97,114,110],[97],p.base⟩],⟨p.base,0,0⟩):=by
  rw[e,lnS,if_neg (by decide),hf,if_neg (by decide)]
  simp[lnK]
 have e2:lnL R2 [p.base,min p.base p.bonus] R2.length=lnS ⟨[112,114,101,116,97,120],[98],3⟩ (min p.base p.bonus) ([⟨[101,97,114,110],[97],p.base⟩],⟨p.base,0,0⟩):=by
  show lnL R2 [p.base,min p.base p.bonus] (1+1)=_
  rw[lnL,e1];rfl
 rw[e2,lnS,if_neg (by decide),hf2,if_neg (by decide)]
 simp[lnR,lnK]
theorem JK:∀x∈X2p,inE x:=λx hx=>by
 simp only[X2p,List.mem_cons,List.not_mem_nil,or_false] at hx;rcases hx with rfl|rfl|rfl|rfl<;>exact in0 _ _ _ _ _
set_option maxHeartbeats 4000000 in
theorem Jz (base bonus bps:Int) (h0:0<=base) (h1:0<=bonus) (hr0:0<=bps):ah Tryz.prog 5 [.d (.int .u64 base),.d (.int .u64 bonus),.d (.int .u16 bps)] (.d (.bool true)):=by
 have hb:=JC base h0;have hn:=JC bonus h1;have hr:0<=bps.tmod 10001/\bps.tmod 10001<=10000:=by rw[Int.tmod_eq_emod_of_nonneg hr0];omega
 obtain⟨b,hbe⟩:∃b,base.tmod 1099511627776=b:=⟨_,rfl⟩
 obtain⟨n,hne⟩:∃b,bonus.tmod 1099511627776=b:=⟨_,rfl⟩
 obtain⟨r,hre⟩:∃b,bps.tmod 10001=b:=⟨_,rfl⟩
 rw[hbe] at hb;rw[hne] at hn;rw[hre] at hr;have hwb:IntKind.i64.wrap b=b:=am (by omega) (by omega)
 have hwn:IntKind.i64.wrap n=n:=am (by omega) (by omega)
 have hwr:IntKind.i64.wrap r=r:=am (by omega) (by omega)
 have hps:=gM [101,97,114,110,32,97,32,61,32,98,97,115,101,59,32,112,114,101,116,97,120,32,98,32,61,32,109,105,110,40,98,97,115,101,44,32,98,111,110,117,115,41,59] (by decide)
 rw[JF] at hps;simp only[jF] at hps;have hs:=Jy (n:=b) (by omega)
 have hs2:=Jy (n:=n) (by omega)
 have hz:=Jy (n:=0) (by omega)
 have h2:=fQ R2 X2p [⟨0,r⟩] [] 0 ⟨b,n,0,0,false⟩ ⟨0,0,0⟩ av [] (by decide) (by decide) JK ⟨hs.1,hs2.1,hz.1,hz.1⟩ (by simp) (by simp) jt (by decide)
 have hl:=JG ⟨b,n,0,0,false⟩ (by simp[Inp.right,hs.2,hs2.2,hz.2]) (by simp[bJ];omega) (by show bJ (min b n)=false;simp[bJ];omega)
 have hl':az R2 X2p ⟨b,n,0,0,false⟩=([⟨[101,97,114,110],[97],b⟩,⟨[112,114,101,116,97,120],[98],min b n⟩],⟨b,min b n,0⟩,0):=hl;obtain⟨m,hm⟩:∃m,min b n=m:=⟨_,rfl⟩
 rw[hm] at hl';obtain⟨k,hk⟩:∃k,b-m=k:=⟨_,rfl⟩
 have hkr:0<=k*r/\k*r<=k*10000:=⟨Int.mul_nonneg (by omega) hr.1,Int.mul_le_mul_of_nonneg_left hr.2 (by omega)⟩
 have hsc:dZ [⟨0,r⟩] []=true:=by
  have:cG r=true:=by simp[cG];omega
  simp[dZ,gv,po,mN,jR,dg,this,List.range,List.range.loop]
 have ht:rD [⟨0,r⟩] k=k*r/10000:=JE r k (by omega)
 have hw:=JB (rows:=[⟨0,r⟩]) (k:=0) (T:=k) hsc hl' (by omega) rfl (by show b-m=k;exact hk) (by omega) (by show 0<=b/\b<=2199023255552;omega) (by rw[ht];omega)
 rw[hw,ht] at h2;obtain⟨t,htt⟩:∃t,k*r/10000=t:=⟨_,rfl⟩
 rw[htt] at h2;have hm0:min 0 (k-t)=0:=by omega
 rw[hm0] at h2;simp only[Int.sub_zero] at h2;have w0:IntKind.i64.wrap (b-m)=k:=by rw[am (by omega) (by omega),hk]
 have w1:IntKind.i64.wrap (k*r)=k*r:=am (by omega) (by omega)
 have w2:(k*r).tdiv 10000=t:=by rw[Int.tdiv_eq_ediv_of_nonneg hkr.1];exact htt
 have w3:IntKind.i64.wrap (k-t)=k-t:=am (by omega) (by omega)
 have w4:IntKind.i64.wrap t=t:=am (by omega) (by omega)
 have haw:=iX;refine ah.enter tabOk Tryz.func5 rfl (by show 3<=98;decide) ?_
 simp only[Tryz.f5];have H:=And.intro hbe (And.intro hne (And.intro hre (And.intro hwb (And.intro hwn (And.intro hwr (And.intro hm (And.intro w0 (And.intro w1 (And.intro w2 (And.intro w3 w4))))))))));iterate 2 refine zR ?_
 refine WpC.seq ?_;refine WpC.region ?_;refine zG iz (hps) ?_;refine zO 8 ?_;refine WpO.nil ?_;refine zR ?_;refine WpC.seq ?_;refine WpC.region ?_;refine zO 11 ?_;refine WpO.gh (Gh.frz [1]) ?_;refine WpO.data (by simp) rfl (by simp -implicitDefEqProofs[H]<;>rfl) (by simp -implicitDefEqProofs[H]<;>rfl) (by simp -implicitDefEqProofs[H]<;>rfl) dM (by simp) ((ah.le h2 (by simp[leA,FV.le,D.leL,av,eF,dz]))) (by rfl) (by simp -implicitDefEqProofs[H]<;>rfl) ?_
 refine zO 9 ?_;refine WpO.nil ?_;refine WpC.seq ?_;refine WpC.region ?_;iterate 3 refine zO 12 ?_
 refine zO 8 ?_;refine zG dw (haw) ?_;refine zO 2 ?_;refine WpO.nil ?_;refine WpC.ret ?_;try simp only[aa,aj]
 refine zE ?_;simp -implicitDefEqProofs[H]
end Go.Proofs.YtlhmejigmokbhaaGreatDoor.Pay
