/- The texts RsI, one behind the other. No statement of the seed is proved here. -/
import Derived.Test.YtlhmejigmokbhaaGreatDoorMgBQ
import Derived.Test.YtlhmejigmokbhaaGreatDoorMgxGaP
namespace Go.Proofs.YtlhmejigmokbhaaGreatDoor.Pay
open Go Go.RowKit
set_option linter.unusedVariables false
set_option linter.unusedSimpArgs false
def kN (n:Int):Bool:=decide ((70368744177664:Int)<n)||decide (n< -70368744177664)
def s9 (s:List UInt8) (rows:List Rw) (funds:List Fd) (y:Yr) (l:List Ord):Bool:=
 ((((decide ((500:Int)<s.length)||decide ((40:Int)<rows.length))||decide ((40:Int)<funds.length))||decide ((60:Int)<y.paid.length))||decide ((60:Int)<y.owed.length))||decide ((40:Int)<l.length)
def j4 (s:List UInt8) (rows:List Rw) (funds:List Fd) (y:Yr) (l:List Ord):Bool:=!s9 s rows funds y l&&!(y.tax::(y.paid++y.owed)).any kN
@[reducible] def o7 (s:List UInt8) (rows:List Rw) (funds:List Fd) (prot:Int) (p:Inp) (ex:Sm) (y:Yr) (l:List Ord):D:=
 .agg [.str s,iG rows,eF funds,dI prot,dI p.base,dI p.bonus,dI p.hours,dI p.days,.bool p.lead,dI ex.gross,dI ex.pretax,dI ex.post,dI y.taxable,dI y.base,dI y.tax,.list 1 (y.paid.map dI),.list 1 (y.owed.map dI),dz l]
set_option maxHeartbeats 4000000 in
theorem lW (s:List UInt8) (rows:List Rw) (funds:List Fd) (prot:Int) (p:Inp) (ex:Sm) (y:Yr) (l:List Ord):
 ah Tryz.prog 9 [.d (o7 s rows funds prot p ex y l)] (.d (.bool (j4 s rows funds y l))):=by
 obtain⟨lb,hlb⟩:∃b,s9 s rows funds y l=b:=⟨_,rfl⟩
 have hlb2:=hlb;unfold s9 at hlb2;obtain⟨L,hL⟩:∃L,y.tax::(y.paid++y.owed)=L:=⟨_,rfl⟩
 have hLm:L.map dI=dI y.tax::(y.paid.map dI++y.owed.map dI):=by rw[<-hL];simp
 have hLn:L.length=y.paid.length+y.owed.length+1:=by rw[<-hL];simp
 unfold j4;rw[hlb,hL];refine ah.enter tabOk Tryz.func9 rfl (by show 1<=67;decide) ?_
 simp only[Tryz.f9];have H:=trivial;refine zR ?_;refine WpC.seq ?_;refine WpC.seq ?_;refine WpC.val 42 (.d (.bool ((((((decide ((500:Int)<s.length)||decide ((40:Int)<rows.length))||decide ((40:Int)<funds.length))||decide ((60:Int)<y.paid.length))||decide ((60:Int)<y.owed.length))||decide ((40:Int)<l.length))))) ?_ ?_
 ·refine WpC.region ?_;refine zO 5 ?_;refine zS 9 (λg9=>?_) (λg9=>?_)
  ·have g9':=zN g9;replace H:=And.intro g9 H;iterate 2 refine zO 12 ?_
   refine zO 9 ?_;refine WpO.nil ?_;refine⟨rfl,Gh.only 42 39 ?_ (by first|rfl|simp -implicitDefEqProofs[H]) (by rfl)⟩
   simp -implicitDefEqProofs[H,g9']
  have g9':=zN g9;replace H:=And.intro g9 H;refine zO 7 ?_;refine zS 16 (λg16=>?_) (λg16=>?_)
  ·have g16':=zN g16;replace H:=And.intro g16 H;iterate 2 refine zO 12 ?_
   refine zO 2 ?_;refine WpO.nil ?_;refine⟨rfl,Gh.only 42 40 ?_ (by first|rfl|simp -implicitDefEqProofs[H]) (by rfl)⟩
   simp -implicitDefEqProofs[H,g9',g16']
  have g16':=zN g16;replace H:=And.intro g16 H;refine zO 7 ?_;refine zS 23 (λg23=>?_) (λg23=>?_)
  ·have g23':=zN g23;replace H:=And.intro g23 H;refine zO 12 ?_;refine zO 7 ?_;refine WpO.nil ?_;refine⟨rfl,Gh.only 42 41 ?_ (by first|rfl|simp -implicitDefEqProofs[H]) (by rfl)⟩
   simp -implicitDefEqProofs[H,g9',g16',g23']
  have g23':=zN g23;replace H:=And.intro g23 H;refine zO 7 ?_;refine zS 30 (λg30=>?_) (λg30=>?_)
  ·have g30':=zN g30;replace H:=And.intro g30 H;refine zO 12 ?_;refine WpO.nil ?_;refine⟨rfl,Gh.only 42 42 ?_ (by first|rfl|simp -implicitDefEqProofs[H]) (by rfl)⟩
   simp -implicitDefEqProofs[H,g9',g16',g23',g30']
  have g30':=zN g30;replace H:=And.intro g30 H;refine zO 7 ?_;refine zS 37 (λg37=>?_) (λg37=>?_)
  ·have g37':=zN g37;replace H:=And.intro g37 H;refine zO 5 ?_;refine WpO.nil ?_;refine⟨rfl,Gh.only 42 43 ?_ (by first|rfl|simp -implicitDefEqProofs[H]) (by rfl)⟩
   simp -implicitDefEqProofs[H,g9',g16',g23',g30',g37']
  have g37':=zN g37;replace H:=And.intro g37 H;refine zO 5 ?_;refine WpO.nil ?_;refine⟨rfl,Gh.only 42 43 ?_ (by first|rfl|simp -implicitDefEqProofs[H]) (by rfl)⟩
  simp -implicitDefEqProofs[H,g9',g16',g23',g30',g37']
 refine zC (λc42=>?_) (λc42=>?_)
 ·have c42':=zN c42;have hl1:lb=true:=hlb2.symm.trans c42;replace H:=And.intro c42 H;refine zR ?_;refine WpC.ret ?_;try simp only[aa,aj]
  refine zE ?_;rw[hl1];simp
 have c42':=zN c42;have hl0:lb=false:=hlb2.symm.trans c42;simp only[Bool.or_eq_false_iff,decide_eq_false_iff_not] at c42;have hq1:1+y.paid.length<=8589934592:=by omega
 have hq2:1+y.paid.length+y.owed.length<=8589934592:=by omega
 have hq3:y.paid.length+1+y.owed.length<=8589934592:=by omega
 have hq4:y.paid.length+1<=8589934592:=by omega
 have hq5:y.paid.length<=8589934591:=by omega
 have hq6:1+y.paid.length<=y.paid.length+1:=by omega
 have hq7:List.take (1+y.paid.length) (dI y.tax::List.map dI y.paid)=dI y.tax::List.map dI y.paid:=List.take_of_length_le (by simp;omega)
 replace H:=And.intro c42 (And.intro hq1 (And.intro hq2 (And.intro hq3 (And.intro hq4 (And.intro hq5 (And.intro hq6 (And.intro hq7 H)))))));refine WpC.skip ?_;refine WpC.seq ?_;refine WpC.seq (WpC.drawn tabOk (by kernel_rfl) 3 (by simp) ?_)
 iterate 4 refine yO 3 ?_
 refine yO 2 ?_;refine DrO.nil ⟨by kernel_rfl,?_⟩
 refine WpC.block ?_;refine WpC.loopK [] [54,55,56] (L.length) (():Unit) (λk _=>[(54,.sl 0 L.length),(55,.d (dI L.length)),(56,.d (.int .i64 k))]) (λk _=>[.arr 3 1 (L.map dI)]) (λk _=>(L.take k).any kN=false) (by simp -implicitDefEqProofs[H]<;>rfl) (Gh.pick [54,55,56] [3] (by simp;rfl) (by simp[hLn]<;>omega) (by simp) (by simp) (by simp;rfl) (by simp[hLm]) (by simp)) (by simp) ?_
 rintro k ⟨⟩ hk hi;simp only[List.cons_append,List.nil_append];refine zR ?_;refine WpC.seq (zL (k<L.length) (λhlt=>?_) (λhge=>?_))
 ·refine WpC.skip ?_;have hkl:k<L.length:=hlt;have hst:=cf kN hlt;obtain⟨x,hx⟩:∃x,L[k]=x:=⟨_,rfl⟩
  have hxm:x∈L:=hx▸List.getElem_mem hkl;have hw:IntKind.i64.wrap ((k:Int)+1)=k+1:=am (by omega) (by omega)
  rw[hi,hx] at hst;replace H:=And.intro hlt (And.intro hkl (And.intro hx (And.intro hw H)));refine WpC.seq ?_;refine WpC.block ?_;refine zR ?_;refine WpC.seq ?_;refine WpC.val 65 (.d (.bool (kN x))) ?_ ?_
  ·refine WpC.region ?_;refine zO 3 ?_;refine zS 62 (λg62=>?_) (λg62=>?_)
   ·have g62':=zN g62;replace H:=And.intro g62 H;refine zO 3 ?_;refine WpO.nil ?_;refine⟨rfl,Gh.only 65 7 ?_ (by first|rfl|simp -implicitDefEqProofs[H]) (by rfl)⟩
    simp -implicitDefEqProofs[H,g62',kN]
   have g62':=zN g62;replace H:=And.intro g62 H;refine zO 3 ?_;refine WpO.nil ?_;refine⟨rfl,Gh.only 65 7 ?_ (by first|rfl|simp -implicitDefEqProofs[H]) (by rfl)⟩
   simp -implicitDefEqProofs[H,g62',kN]
  refine zC (λc65=>?_) (λc65=>?_)
  ·have c65':=zN c65;replace H:=And.intro c65 H;refine zR ?_;refine WpC.ret ?_;try simp only[aa,aj]
   refine zE ?_;have:L.any kN=true:=List.any_eq_true.2 ⟨x,hxm,c65⟩;rw[this];simp
  have c65':=zN c65;replace H:=And.intro c65 H;refine WpC.skip ?_;refine zr ?_;exact⟨hlt,(),by rw[hst];simpa using c65,Gh.cut' [54,55,56] 1 (by simp -implicitDefEqProofs[H,c42',c65']) (by simp -implicitDefEqProofs[H,c42',c65']) rfl (by simp) (by simp) (by simp)⟩
 refine WpC.exit ?_;have hkn:k=L.length:=by omega
 subst hkn;rw[List.take_of_length_le (Nat.le_refl _)] at hi;refine zR ?_;refine WpC.ret ?_;try simp only[aa,aj]
 refine zE ?_;rw[hl0,hi];simp
theorem kG {s:List UInt8} {rows:List Rw} {funds:List Fd} {y:Yr} {l:List Ord} (h:j4 s rows funds y l=true):s.length<=500/\rows.length<=40/\funds.length<=40/\l.length<=40/\y.okZ:=by
 simp only[j4,Bool.and_eq_true,Bool.not_eq_true',s9,Bool.or_eq_false_iff,decide_eq_false_iff_not,List.any_eq_false] at h;obtain⟨⟨⟨⟨⟨⟨h1,h2⟩,h3⟩,h4⟩,h5⟩,h6⟩,h7⟩:=h;have hn:∀n∈y.tax::(y.paid++y.owed),-70368744177664<=n/\n<=70368744177664:=λn hn=>by
  have:=h7 n hn;simp[kN] at this;omega
 refine⟨by omega,by omega,by omega,by omega,?_,λn hn2=>?_,λn hn2=>?_⟩
 ·have:=hn y.tax (by simp);omega
 ·have:=hn n (by simp[hn2]);omega
 ·have:=hn n (by simp[hn2]);omega
theorem uA {s:List UInt8} (h:¬(bR s).2.2.2=0):(bR s).1=[]:=by
 unfold bR at h ⊢;split
 ·rfl
 ·rename_i toks he;rw[he] at h;simp only at h ⊢;split
  ·rename_i h2;rw[if_pos h2] at h;exact absurd rfl h
  ·rfl
theorem pB {R:List Ru} {X:List Ex} {rows:List Rw} {funds:List Fd} {prot:Int} {p:Inp} {ex:Sm} {y:Yr} {l:List Ord}:
 ((cv R X rows funds prot p ex y l).2.2=0->∃ls raw G T,(0<=prot/\prot<=1099511627776)/\az R X p=(ls,raw,0)/\((bJ ex.gross||bJ ex.pretax)||bJ ex.post)=false/\raw.gross+ex.gross=G/\G-raw.pretax-ex.pretax=T/\cd rows funds y T G=0/\
  eO (bs (bH rows funds y T G) T-bY (bH rows funds y T G) raw ex T) prot l=0/\
  cv R X rows funds prot p ex y l=(sv y (bH rows funds y T G) ls raw ex T prot l (bs (bH rows funds y T G) T) (bY (bH rows funds y T G) raw ex T),gB rows funds y T G,0))/\
 (¬(cv R X rows funds prot p ex y l).2.2=0->(cv R X rows funds prot p ex y l).1=fW):=by
 obtain⟨⟨ls,raw,e⟩,hls⟩:∃q,az R X p=q:=⟨_,rfl⟩
 unfold cv;rw[hls];simp only;obtain⟨G,hG⟩:∃G,raw.gross+ex.gross=G:=⟨_,rfl⟩
 obtain⟨T,hT⟩:∃T,G-raw.pretax-ex.pretax=T:=⟨_,rfl⟩
 rw[hG,hT];by_cases h1:((!dZ rows funds||decide (prot<0))||decide (1099511627776<prot))=true
 ·rw[if_pos h1];exact⟨λh=>absurd h (by decide),λ_=>rfl⟩
 ·rw[if_neg h1];by_cases h2:e=0
  ·rw[if_pos h2];by_cases h3:((bJ ex.gross||bJ ex.pretax)||bJ ex.post)=true
   ·rw[if_pos h3];exact⟨λh=>absurd h (by decide),λ_=>rfl⟩
   ·rw[if_neg h3];by_cases h4:cd rows funds y T G=0
    ·rw[if_pos h4];by_cases h5:eO (bs (bH rows funds y T G) T-bY (bH rows funds y T G) raw ex T) prot l=0
     ·rw[if_pos h5];refine⟨λ_=>⟨ls,raw,G,T,?_,by rw[h2],by simpa using h3,hG,hT,h4,h5,rfl⟩,λh=>absurd rfl h⟩
      simp at h1;omega
     ·rw[if_neg h5];exact⟨λh=>absurd h h5,λ_=>rfl⟩
    ·rw[if_neg h4];exact⟨λh=>absurd h h4,λ_=>rfl⟩
  ·rw[if_neg h2];exact⟨λh=>absurd h h2,λ_=>rfl⟩
structure FM (r:Rs) (prot:Int) (n:Nat) (LF g:Int):Prop where
 raw:r.raw.near 60
 ext:(-35184372088832<=r.extra.gross/\r.extra.gross<=35184372088832)/\(-35184372088832<=r.extra.pretax/\r.extra.pretax<=35184372088832)/\(-35184372088832<=r.extra.post/\r.extra.post<=35184372088832)
 tax: -1152921504606846976<=r.tax/\r.tax<=1166432303488958464
 paid:r.paid.length<=6/\∀n∈r.paid,-2251799813685248<=n/\n<=2251799813685248
 sum: -13510798882111488<=bB r.paid/\bB r.paid<=13510798882111488
 left:r.raw.gross+r.extra.gross-r.raw.pretax-r.extra.pretax-r.tax-bB r.paid=LF
 taken:r.taken=min (r.raw.post+r.extra.post) (max LF 0)
 held:r.held=r.raw.post+r.extra.post-r.taken
 near: -1125899906842624<=LF-r.taken/\LF-r.taken<=1125899906842624
 garn:r.garn.length=n/\n<=8/\∀n∈r.garn,0<=n/\n<=1125899906842624
 gsum:bB r.garn=g
 g0:0<=g/\g<=9007199254740992
 prot0:0<=prot
 low:LF-r.taken<prot->g=0
 high:prot<=LF-r.taken->prot<=LF-r.taken-g
 net:r.net=max (LF-r.taken-g) 0
 short:r.short=max (-(LF-r.taken-g)) 0
theorem xw {net prot:Int} {l:List Ord} (h:eO net prot l=0):0<=bB (d_ net prot l)/\(net<prot->bB (d_ net prot l)=0)/\(prot<=net->prot<=net-bB (d_ net prot l)):=by
 obtain⟨g,hw,hn,hp⟩:=gZ h;have ht:=uB g;have hs:bB (d_ net prot l)=aJ (el (at0 (net-prot)) (jl l) (fC l) l.length) l.length:=by
  have hl:=(oP h).1;rw[bB,hl];refine bv λi hi=>?_
  rw[bO (by omega)]
  simp[d_,h]
 have h0:0<=aJ (el (at0 (net-prot)) (jl l) (fC l) l.length) l.length:=fF λi hi=>(oO g hi).1
 have hw0:0<=aJ (fC l) l.length:=fF λi hi=>by have:=oO g hi;omega
 rw[hs];unfold at0 at ht h0 ⊢;refine⟨h0,λhlt=>?_,λhle=>?_⟩
 ·rw[if_pos (by omega)] at ht h0 ⊢
  rw[ht];split<;>omega
 ·rw[if_neg (by omega)] at ht h0 ⊢
  rw[ht];split<;>omega
theorem pC {R:List Ru} {X:List Ex} {rows:List Rw} {funds:List Fd} {prot:Int} {p:Inp} {ex:Sm} {y:Yr} {l:List Ord} (hv:∀x∈X,inE x) (hp:p.ok) (hy:y.okZ) (h:(cv R X rows funds prot p ex y l).2.2=0):
 ∃LF g,FM (cv R X rows funds prot p ex y l).1 prot l.length LF g:=by
 obtain⟨ls,raw,G,T,hpr,hls,hfr,hG,hT,hse,hce,hw⟩:=pB.1 h;have hnr:=mi (R:=R) (X:=X) hv hp;rw[hls] at hnr;rw[hw];obtain⟨ct,cl,cp⟩:=tE hy hse;obtain⟨came,hca⟩:∃q,bH rows funds y T G=q:=⟨_,rfl⟩
 rw[hca] at ct cl cp hce ⊢;have hsi:=ja (B:=2251799813685248) (by omega) cp
 have hsi2:(came.paid.length:Int)*2251799813685248<=6*2251799813685248:=Int.mul_le_mul_of_nonneg_right (by omega) (by omega)
 have hog:=oP hce;have hl8:=tD hce;have hcg:=(gZ hce).2.2.1;have hgs:=xw hce;have hgb:=ja (L:=d_ (bs came T-bY came raw ex T) prot l) (B:=1125899906842624) (by omega) λn hn=>by have:=hog.2 n hn;omega
 have hgb2:((d_ (bs came T-bY came raw ex T) prot l).length:Int)*1125899906842624<=8*1125899906842624:=Int.mul_le_mul_of_nonneg_right (by omega) (by omega)
 refine⟨bs came T,bB (d_ (bs came T-bY came raw ex T) prot l),?_⟩;simp only[Bool.or_eq_false_iff] at hfr;obtain⟨⟨f1,f2⟩,f3⟩:=hfr;simp[bJ] at f1 f2 f3;exact{
  raw:=hnr
  ext:=⟨⟨by show -35184372088832<=ex.gross;omega,by show ex.gross<=35184372088832;omega⟩,⟨by show -35184372088832<=ex.pretax;omega,by show ex.pretax<=35184372088832;omega⟩,⟨by show -35184372088832<=ex.post;omega,by show ex.post<=35184372088832;omega⟩⟩
  tax:=ct
  paid:=⟨cl,cp⟩
  sum:=⟨by show -13510798882111488<=bB came.paid;omega,by show bB came.paid<=13510798882111488;omega⟩
  left:=by show raw.gross+ex.gross-raw.pretax-ex.pretax-came.tax-bB came.paid=bs came T;rw[hG,hT];rfl
  taken:=rfl
  held:=rfl
  near:=by show -1125899906842624<=bs came T-bY came raw ex T/\bs came T-bY came raw ex T<=1125899906842624;omega
  garn:=⟨hog.1,hl8,hog.2⟩
  gsum:=rfl
  g0:=⟨hgs.1,by omega⟩
  prot0:=hpr.1
  low:=hgs.2.1
  high:=hgs.2.2
  net:=rfl
  short:=rfl}
theorem fT (L:List Int) (hn:L.length<=1000) (hf:∀n∈L,-2305843009213693<=n/\n<=2305843009213693):ah Tryz.prog 13 [.d (.list 1 (L.map dI))] (.d (dI (bB L))):=by
 rw[qi];refine uf (aQ L) L.length hn λi hi=>?_
 rw[bO hi];exact hf _ (List.getElem_mem hi)
set_option maxHeartbeats 16000000 in
theorem j8 (s:List UInt8) (rows:List Rw) (funds:List Fd) (prot:Int) (p:Inp) (ex:Sm) (y:Yr) (l:List Ord) (hp:p.ok):ah Tryz.prog 3 [.d (o7 s rows funds prot p ex y l)] (.d (.bool true)):=by
 have haw:=iX;have hsm:=lW s rows funds prot p ex y l;have hsf:=kG (s:=s) (rows:=rows) (funds:=funds) (y:=y) (l:=l);obtain⟨sm,hsm2⟩:∃b,j4 s rows funds y l=b:=⟨_,rfl⟩
 rw[hsm2] at hsm hsf;refine ah.enter tabOk Tryz.func3 rfl (by show 1<=182;decide) ?_
 simp only[Tryz.f3];have H:=trivial;refine zR ?_;refine WpC.seq ?_;refine WpC.seq ?_;refine WpC.region ?_;refine zO 1 ?_;refine zG xY (hsm) ?_;refine zO 1 ?_;refine WpO.nil ?_;refine zC (λc13=>?_) (λc13=>?_)
 ·have c13':=zN c13;replace H:=And.intro c13 H;refine WpC.seq ?_;refine WpC.region ?_;refine zG dw (haw) ?_;refine zO 1 ?_;refine WpO.nil ?_;refine WpC.ret ?_;try simp only[aa,aj]
  refine zE ?_;simp -implicitDefEqProofs[H]
 have c13':=zN c13;obtain⟨hs5,hr4,hf4,hl4,hy⟩:=hsf (by simpa using c13)
 have hps:=gM s (by omega)
 have hpl:=nL s;have hpx:=(sV s).2.2;have hpe:=uA (s:=s);obtain⟨⟨R,X,pl,pe⟩,hpp⟩:∃q,bR s=q:=⟨_,rfl⟩
 rw[hpp] at hps hpl hpx hpe;simp only[jF] at hps hpl hpx hpe;have hwk:=fQ R X rows funds prot p ex y l (by omega) (by omega) hpx hp (by omega) (by omega) hy (by omega)
 have hwo:=pC (R:=R) (X:=X) (rows:=rows) (funds:=funds) (prot:=prot) (p:=p) (ex:=ex) (y:=y) (l:=l) hpx hp hy;have hwe:=(pB (R:=R) (X:=X) (rows:=rows) (funds:=funds) (prot:=prot) (p:=p) (ex:=ex) (y:=y) (l:=l)).2;obtain⟨⟨r,z,f⟩,hws⟩:∃q,cv R X rows funds prot p ex y l=q:=⟨_,rfl⟩
 rw[hws] at hwk hwo hwe;simp only at hwk hwo hwe;replace H:=And.intro c13 H;refine WpC.skip ?_;refine WpC.seq ?_;refine WpC.region ?_;refine zO 2 ?_;refine zG iz (hps) ?_;refine zO 8 ?_;refine WpO.nil ?_;refine WpC.seq ?_;refine zR ?_;refine zD (¬pe=0) (λd23=>?_) (λd23=>?_)
 ·have hR0:=hpe d23;subst hR0;replace H:=And.intro d23 H;refine WpC.seq ?_;refine WpC.region ?_;refine zO 5 ?_;refine zG dw (haw) ?_;refine zO 2 ?_;refine WpO.nil ?_;refine WpC.ret ?_;try simp only[aa,aj]
  refine zE ?_;simp -implicitDefEqProofs[H]
 replace H:=And.intro d23 H;refine WpC.skip ?_;refine WpC.seq ?_;refine WpC.region ?_;refine zO 12 ?_;refine zO 2 ?_;refine zG dM (hwk) ?_;refine zO 9 ?_;refine WpO.nil ?_;refine WpC.seq ?_;refine zR ?_;refine zD (¬f=0) (λd51=>?_) (λd51=>?_)
 ·have hr0:=hwe d51;subst hr0;have hnl:fW.lines=[]:=rfl;replace H:=And.intro d51 (And.intro hnl H);refine WpC.seq ?_;refine WpC.region ?_;refine zO 5 ?_;refine zG dw (haw) ?_;refine zO 2 ?_;refine WpO.nil ?_;refine WpC.ret ?_;try simp only[aa,aj]
  refine zE ?_;simp -implicitDefEqProofs[H]
 obtain⟨LF,g,W⟩:=hwo (by omega)
 have a1:=W.raw;unfold Sm.near at a1;have a2:=W.ext;have a3:=W.tax;have a4:=W.sum;have a5:=W.left;have a6:=W.taken;have a7:=W.held;have a8:=W.near;have a9:=W.g0;have b1:=W.low;have b2:=W.high;have b3:=W.net;have b4:=W.short;have b5:=W.prot0;have hgl:=W.garn.1;have hsg:=fT r.garn (by rw[hgl];have:=W.garn.2.1;omega) λn hn=>by have:=W.garn.2.2 n hn;omega
 have hsp:=fT r.paid (by have:=W.paid.1;omega) λn hn=>by have:=W.paid.2 n hn;omega
 rw[W.gsum] at hsg;obtain⟨sp,hspe⟩:∃s,bB r.paid=s:=⟨_,rfl⟩
 rw[hspe] at hsp a4 a5;obtain⟨A1,e1⟩:∃a,r.raw.gross+r.extra.gross=a:=⟨_,rfl⟩
 obtain⟨A2,e2⟩:∃a,A1-r.raw.pretax=a:=⟨_,rfl⟩
 obtain⟨A3,e3⟩:∃a,A2-r.extra.pretax=a:=⟨_,rfl⟩
 obtain⟨A4,e4⟩:∃a,A3-r.tax=a:=⟨_,rfl⟩
 have e5:A4-sp=LF:=by omega
 obtain⟨A6,e6⟩:∃a,LF-r.taken=a:=⟨_,rfl⟩
 rw[e6] at a8 b1 b2 b3 b4;obtain⟨D,e7⟩:∃a,A6-g=a:=⟨_,rfl⟩
 rw[e7] at b2 b3 b4;obtain⟨PO,e8⟩:∃a,r.raw.post+r.extra.post=a:=⟨_,rfl⟩
 rw[e8] at a6 a7;have v1:IntKind.i64.wrap (r.raw.gross+r.extra.gross)=A1:=by rw[am (by omega) (by omega),e1]
 have v2:IntKind.i64.wrap (A1-r.raw.pretax)=A2:=by rw[am (by omega) (by omega),e2]
 have v3:IntKind.i64.wrap (A2-r.extra.pretax)=A3:=by rw[am (by omega) (by omega),e3]
 have v4:IntKind.i64.wrap (A3-r.tax)=A4:=by rw[am (by omega) (by omega),e4]
 have v5:IntKind.i64.wrap (A4-sp)=LF:=by rw[am (by omega) (by omega),e5]
 have v6:IntKind.i64.wrap (LF-r.taken)=A6:=by rw[am (by omega) (by omega),e6]
 have v7:IntKind.i64.wrap (A6-g)=D:=by rw[am (by omega) (by omega),e7]
 have v8:IntKind.i64.wrap (r.net-r.short)=D:=by rw[am (by omega) (by omega)];omega
 have v9:IntKind.i64.wrap (D+g)=A6:=by rw[am (by omega) (by omega)];omega
 have v10:IntKind.i64.wrap (r.taken+r.held)=PO:=by rw[am (by omega) (by omega)];omega
 have v11:IntKind.i64.wrap (r.raw.post+r.extra.post)=PO:=by rw[am (by omega) (by omega),e8]
 have n0:¬r.net<0:=by omega
 have s0:¬r.short<0:=by omega
 have h0:¬r.held<0:=by omega
 clear hwk hps;replace H:=And.intro d51 (And.intro v1 (And.intro v2 (And.intro v3 (And.intro v4 (And.intro v5 (And.intro v6 (And.intro v7 (And.intro v8 (And.intro v9 (And.intro v10 (And.intro v11 (And.intro n0 (And.intro s0 (And.intro h0 (And.intro hgl H)))))))))))))));refine WpC.skip ?_;refine WpC.seq ?_;refine WpC.region ?_;refine zO 2 ?_;refine zG eo (hsg) ?_;refine zO 1 ?_;refine WpO.nil ?_;refine zR ?_;refine WpC.seq ?_;refine WpC.seq ?_;refine WpC.val 121 (.d (.bool (false))) ?_ ?_
 ·refine WpC.drawn tabOk (by kernel_rfl) 0 (by simp) ?_
  iterate 6 refine yO 3 ?_
  refine yO 2 ?_;refine yG eo (hsp) ?_;iterate 9 refine yO 3 ?_
  refine yS 116 (λg116=>?_) (λg116=>?_)
  ·have g116':=zN g116;have hs1:¬0<r.short:=by have:=g116';omega
   replace H:=And.intro g116 (And.intro hs1 H);refine yO 3 ?_;refine yO 2 ?_;refine DrO.nil ⟨by kernel_rfl,?_⟩
   refine⟨rfl,Gh.only 121 53 ?_ (by first|rfl|simp -implicitDefEqProofs[H]) (by rfl)⟩
   simp -implicitDefEqProofs[H,g116']
  have g116':=zN g116;replace H:=And.intro g116 H;refine yO 3 ?_;refine yO 2 ?_;refine DrO.nil ⟨by kernel_rfl,?_⟩
  refine⟨rfl,Gh.only 121 53 ?_ (by first|rfl|simp -implicitDefEqProofs[H]) (by rfl)⟩
  simp -implicitDefEqProofs[H,g116']
 refine zF ?_;refine WpC.skip ?_;refine WpC.seq ?_;refine WpC.seq ?_;refine WpC.val 148 (.d (.bool (false))) ?_ ?_
 ·refine WpC.region ?_;refine zO 12 ?_;refine zO 11 ?_;refine zS 144 (λg144=>?_) (λg144=>?_)
  ·have g144':=zN g144;have ha1:¬0<A6:=by have:=g144';omega
   replace H:=And.intro g144 (And.intro ha1 H);refine zO 4 ?_;refine WpO.nil ?_;refine⟨rfl,Gh.only 148 28 ?_ (by first|rfl|simp -implicitDefEqProofs[H]) (by rfl)⟩
   simp -implicitDefEqProofs[H,g144']
  have g144':=zN g144;replace H:=And.intro g144 H;refine zO 4 ?_;refine WpO.nil ?_;refine⟨rfl,Gh.only 148 28 ?_ (by first|rfl|simp -implicitDefEqProofs[H]) (by rfl)⟩
  simp -implicitDefEqProofs[H,g144']
 refine zF ?_;refine WpC.skip ?_;refine WpC.seq ?_;refine WpC.region ?_;refine zO 5 ?_;refine zS 153 (λg153=>?_) (λg153=>?_)
 ·have g153':=zN g153;have hg0:g=0:=b1 (by have:=g153';omega)
  replace H:=And.intro g153 (And.intro hg0 H);iterate 2 refine zO 12 ?_
  refine zO 2 ?_;refine zG dw (haw) ?_;refine zO 2 ?_;refine WpO.nil ?_;refine WpC.ret ?_;try simp only[aa,aj]
  refine zE ?_;simp -implicitDefEqProofs[H]
 have g153':=zN g153;have hp1:prot<=A6:=by have:=g153';omega
 have hp2:prot<=r.net:=by omega
 replace H:=And.intro g153 (And.intro hp1 (And.intro hp2 H));iterate 2 refine zO 12 ?_
 refine zO 2 ?_;refine zG dw (haw) ?_;refine zO 2 ?_;refine WpO.nil ?_;refine WpC.ret ?_;try simp only[aa,aj]
 refine zE ?_;simp -implicitDefEqProofs[H]
end Go.Proofs.YtlhmejigmokbhaaGreatDoor.Pay
