/- The texts SpN, GaD, SpX, SpR, SpT, one behind the other. No statement of the seed is proved here. -/
import Derived.Test.YtlhmejigmokbhaaGreatDoorMgO
import Derived.Test.YtlhmejigmokbhaaGreatDoorMgP
import Derived.Test.YtlhmejigmokbhaaGreatDoorMgU
namespace Go.Proofs.YtlhmejigmokbhaaGreatDoor.Pay
open Go Go.RowKit
set_option linter.unusedVariables false
set_option linter.unusedSimpArgs false
set_option linter.unusedSectionVars false
def bm (f:Nat->Nat) (k:Nat):Nat:=((List.range k).map f).sum
theorem bf (f:Nat->Nat) (k:Nat):bm f (k+1)=bm f k+f k:=by
 unfold bm;rw[List.range_succ];simp
theorem Az {f g:Nat->Nat} {n:Nat} (h:∀i,i<n->f i<=g i):bm f n<=bm g n:=by
 induction n with
 |zero=>simp[bm]
 |succ n ih=>
  rw[bf,bf];have:=ih λi hi=>h i (by omega)
  have:=h n (by omega)
  omega
theorem ig (f:Nat->Nat) {k n:Nat} (h:k<=n):bm f k<=bm f n:=by
 induction n with
 |zero=>
  have:k=0:=by omega
  subst this;exact Nat.le_refl _
 |succ n ih=>
  by_cases hk:k=n+1
  ·subst hk;exact Nat.le_refl _
  ·rw[bf];have:=ih (by omega)
   omega
theorem lR (t s:Nat) (w:Nat->Nat):∀k,bm (λi=>t*w i/s) k*s+bm (λi=>t*w i%s) k=t*bm w k
 |0=>by simp[bm]
 |k+1=>by
  have ih:=lR t s w k;rw[bf,bf,bf,Nat.mul_add,Nat.add_mul];have:=Nat.div_add_mod' (t*w k) s;omega
theorem lS (c:Nat):∀k,bm (λ_=>c) k=k*c
 |0=>by simp[bm]
 |k+1=>by rw[bf,lS c k,Nat.add_mul];omega
theorem td {t s n:Nat} {w:Nat->Nat} (hs:0<s) (hw:bm w n=s):bm (λi=>t*w i/s) n<=t/\t-bm (λi=>t*w i/s) n<=n:=by
 have h:=lR t s w n;rw[hw] at h;have h1:bm (λi=>t*w i%s) n<=n*s:=by
  rw[<-lS s n];exact Az λi hi=>Nat.le_of_lt (Nat.mod_lt _ hs)
 generalize bm (λi=>t*w i%s) n=r at h h1
 generalize bm (λi=>t*w i/s) n=p at h
 have hp:p*s<=t*s:=by omega
 have hpt:p<=t:=Nat.le_of_mul_le_mul_right hp hs;refine⟨hpt,?_⟩;have:(t-p)*s<=n*s:=by rw[Nat.sub_mul];omega
 exact Nat.le_of_mul_le_mul_right this hs
def spW (ws:List Int) (i:Nat):Int:=(ws[i]?).getD 0
def spN (T:Int) (ws:List Int) (i:Nat):Nat:=T.toNat*(spW ws i).toNat/ws.sum.toNat
def spP (T:Int) (ws:List Int) (i:Nat):Int:=(spN T ws i:Nat)
def spL (T:Int) (ws:List Int):Nat:=T.toNat-bm (spN T ws) ws.length
def j3 (T:Int) (ws:List Int) (i:Nat):Int:=spP T ws i+if ahead (cS T ws.sum (spW ws) (spP T ws)) ws.length i<spL T ws then 1 else 0
def spE (T:Int) (ws:List Int):Int:=if 60<ws.length then 9 else if T<0\/(ws.any λw=>decide (w<0))=true then 1 else if oB ws=false then 3 else if ws.sum=0 then 4 else 0
def spR (T:Int) (ws:List Int):List D:=if spE T ws=0 then aA (j3 T ws) ws.length else []
theorem Bp (ws:List Int):ws.map dI=aA (spW ws) ws.length:=AX ws
theorem sC:∀ {ws:List Int},(∀x∈ws,0<=x)->bm (λi=>(spW ws i).toNat) ws.length=ws.sum.toNat:=by
 intro ws h;have e:(List.range ws.length).map (λi=>(spW ws i).toNat)=ws.map Int.toNat:=by
  apply List.ext_getElem
  ·simp
  ·intro i h1 h2;simp only[List.length_map,List.length_range] at h1;simp[spW,List.getElem?_eq_getElem h1]
 unfold bm;rw[e];clear e;induction ws with
 |nil=>rfl
 |cons x l ih=>
  have h1:=h x (by simp)
  have h2:=cX (l:=l) λy hy=>h y (by simp[hy])
  rw[List.map_cons,List.sum_cons,List.sum_cons,ih λy hy=>h y (by simp[hy])]
  omega
def pk (f:Nat->Int) (k:Nat):Nat->Int:=λi=>if i<k then f i else 0
theorem sU (f:Nat->Int) (k:Nat):upd (pk f k) k (f k)=pk f (k+1):=by
 funext i
 unfold upd pk;by_cases h:i=k
 ·subst h;rw[if_pos rfl,if_pos (by omega)]
 ·rw[if_neg h];by_cases h2:i<k
  ·rw[if_pos h2,if_pos (by omega)]
  ·rw[if_neg h2,if_neg (by omega)]
theorem wB (f:Nat->Int) (n:Nat):aA (pk f n) n=aA f n:=fH λi hi=>if_pos hi
theorem oM (f:Nat->Int) (n:Nat):List.replicate n (D.int .i64 0)=aA (pk f 0) n:=by
 apply List.ext_getElem?;intro i;by_cases h:i<n
 ·rw[ez h,List.getElem?_replicate,if_pos h];simp[pk]
 ·rw[List.getElem?_eq_none (by simp;omega),List.getElem?_eq_none (by simp;omega)]
set_option maxHeartbeats 40000000 in
theorem vU (T:Int) (ws:List Int) (hT:aC T) (hws:∀x∈ws,aC x) (hlen:ws.length<=1000000):
 ah Tryz.prog 52 [.d (dI T),.d (.list 1 (ws.map dI))] (.tup [.d (.list 1 (spR T ws)),.d (dI (spE T ws))]):=by
 obtain⟨n,hn⟩:∃n,ws.length=n:=⟨_,rfl⟩
 have hco:=pd ws (by omega)
 obtain⟨nb,hnb⟩:∃b,(ws.any λw=>decide (w<0))=b:=⟨_,rfl⟩
 rw[hnb] at hco;refine ah.enter tabOk Tryz.func52 rfl (by show 2<=95;decide) ?_
 simp only[Tryz.f52];have H:=hn;refine zR ?_;refine WpC.seq ?_;refine WpC.block ?_;refine zR ?_;refine zD ((60:Int)<n) (λd16=>?_) (λd16=>?_)
 ·replace H:=And.intro d16 H;refine zR ?_;refine WpC.ret ?_;try simp only[aa,aj]
  refine zE ?_;have e:spE T ws=9:=by unfold spE;rw[if_pos (by omega)]
  simp[e,spR]
 have hn60:n<=60:=by omega
 have hn61:n<=8589934592:=by omega
 have hn62:(n:Int)<=8589934592:=by omega
 replace H:=And.intro d16 (And.intro hn61 (And.intro hn62 H));refine WpC.seq ?_;refine WpC.val 20 (.d (.bool (decide (T<0)||nb))) ?_ ?_
 ·refine WpC.region ?_;refine zO 3 ?_;refine zS 23 (λg23=>?_) (λg23=>?_)
  ·try(exfalso;revert g23;simp;done)
   all_goals
    have g23':=zN g23;replace H:=And.intro g23 H;refine zO 4 ?_;refine WpO.nil ?_;refine⟨rfl,Gh.only 20 8 ?_ (by first|rfl|simp -implicitDefEqProofs[H]) (by rfl)⟩
    simp -implicitDefEqProofs[H,g23']
  ·try(exfalso;revert g23;simp;done)
   all_goals
    have g23':=zN g23;replace H:=And.intro g23 H;refine zO 1 ?_;refine zG lu (hco) ?_;refine zO 2 ?_;refine WpO.nil ?_;refine⟨rfl,Gh.only 20 8 ?_ (by first|rfl|simp -implicitDefEqProofs[H]) (by rfl)⟩
    simp -implicitDefEqProofs[H,g23']
 refine zD (T<0\/nb=true) (λd20=>?_) (λd20=>?_)
 ·replace H:=And.intro d20 H;refine zR ?_;refine WpC.ret ?_;try simp only[aa,aj]
  refine zE ?_;have e:spE T ws=1:=by unfold spE;rw[if_neg (by omega),hnb,if_pos d20]
  simp[e,spR]
 have hT0:0<=T:=by omega
 have hw0:∀x∈ws,0<=x:=λx hx=>by
  have hf:nb=false:=by cases nb<;>simp_all
  rw[hf,List.any_eq_false] at hnb;have:=hnb x hx;simp at this;omega
 have hsm:=AA ws (λx hx=>⟨hw0 x hx,(hws x hx).2⟩) (by omega)
 obtain⟨sb,hsb⟩:∃b,oB ws=b:=⟨_,rfl⟩
 rw[hsb] at hsm;replace H:=And.intro d20 H;refine WpC.skip ?_;refine WpC.seq ?_;refine WpC.region ?_;refine zO 1 ?_;refine zG Cd (hsm) ?_;refine zO 6 ?_;refine WpO.nil ?_;refine WpC.seq ?_;refine WpC.block ?_;refine zR ?_;refine zD (sb=false) (λd32=>?_) (λd32=>?_)
 ·have hsf:sb=false:=d32;replace H:=And.intro d32 (And.intro hsf H);refine zR ?_;refine WpC.ret ?_;try simp only[aa,aj]
  refine zE ?_;have e:spE T ws=3:=by unfold spE;rw[if_neg (by omega),hnb,if_neg d20,hsb,if_pos hsf]
  simp[e,spR,hsf]
 have hst:sb=true:=by cases sb<;>simp_all
 subst hst;replace H:=And.intro d32 H;refine zR ?_;refine zD (ws.sum=0) (λd36=>?_) (λd36=>?_)
 ·replace H:=And.intro d36 H;refine zR ?_;refine WpC.ret ?_;try simp only[aa,aj]
  refine zE ?_;have e:spE T ws=4:=by unfold spE;rw[if_neg (by omega),hnb,if_neg d20,hsb,if_neg (by decide),if_pos d36]
  simp[e,spR]
 have e0:spE T ws=0:=by unfold spE;rw[if_neg (by omega),hnb,if_neg d20,hsb,if_neg (by decide),if_neg d36]
 have hsum0:=cX hw0;have hsumM:ws.sum<=9223372036854775807:=of_decide_eq_true hsb;obtain⟨t,ht⟩:∃t:Nat,T=t:=⟨T.toNat,by omega⟩
 obtain⟨s,hs⟩:∃s:Nat,ws.sum=s:=⟨ws.sum.toNat,by omega⟩
 have hs0:0<s:=by omega
 obtain⟨wf,hwf⟩:∃wf,spW ws=wf:=⟨_,rfl⟩
 have hrow:ws.map dI=aA wf n:=by rw[Bp,hn,hwf]
 have hwn:∀i,i<n->inN (wf i):=λi hi=>by
  have:wf i=ws[i]'(by omega):=by rw[<-hwf];unfold spW;rw[List.getElem?_eq_getElem (by omega)];rfl
  rw[this];exact⟨hw0 _ (List.getElem_mem _),(hws _ (List.getElem_mem _)).2⟩
 have hsumw:bm (λi=>(wf i).toNat) n=s:=by rw[<-hwf,<-hn,sC hw0,hs];rfl
 obtain⟨pn,hpn⟩:∃pn:Nat->Nat,(λi=>t*(wf i).toNat/s)=pn:=⟨_,rfl⟩
 have hpne:spN T ws=pn:=by
  funext i;rw[<-hpn];unfold spN;rw[hwf,ht,hs];rfl
 obtain⟨hl1,hl2⟩:=td (t:=t) hs0 hsumw;rw[hpn] at hl1 hl2;have hpb:∀i,i<n->pn i<=t:=λi hi=>by
  have h1:pn i<=bm pn (i+1):=by rw[bf];omega
  have h2:=ig pn (show i+1<=n from hi)
  omega
 obtain⟨pf,hpf⟩:∃pf:Nat->Int,(λi=>((pn i:Nat):Int))=pf:=⟨_,rfl⟩
 have hpfe:spP T ws=pf:=by funext i;rw[<-hpf];unfold spP;rw[hpne]
 have hpi:∀i,pf i=pn i:=λi=>by rw[<-hpf]
 have hpin:∀i,i<n->inN (pf i):=λi hi=>by rw[hpi];have:=hpb i hi;unfold aC at hT;exact⟨by omega,by omega⟩
 obtain⟨lft,hlft⟩:∃l,t-bm pn n=l:=⟨_,rfl⟩
 have hspL:spL T ws=lft:=by unfold spL;rw[hpne,hn,ht];exact hlft
 have hz1:List.replicate n (D.int .i64 0)=aA (pk pf 0) n:=oM pf n;have hz2:List.replicate n (D.int .i64 0)=aA (pk (λi=>(i:Int)) 0) n:=oM _ n
 have hz3:aA (pk (λi=>(i:Int)) 0) n=aA (pk pf 0) n:=by rw[<-hz1,<-hz2]
 have hz4:bm pn 0=0:=rfl;have hcm:=yE (t:Int) (s:Int) wf pf n;have hTn:inN (t:Int):=by unfold aC at hT;exact⟨by omega,by omega⟩
 have hSn:inN (s:Int):=⟨by omega,by omega⟩
 have hcc:=λx y hx hy=>Ho (t:Int) (s:Int) wf pf n hTn hSn hwn hpin hn60 x y hx hy
 have hso:=m4 (t:Int) (s:Int) (aA wf n) (aA pf n) hcm hcc (λi=>(i:Int)) n hn60 (λi hi=>by show(0:Int)<=i/\(i:Int)<n;omega)
 subst ht;replace H:=And.intro d36 (And.intro hrow (And.intro hs (And.intro hz1 (And.intro hz3 (And.intro hz4 H)))));refine WpC.skip ?_;iterate 3 refine zR ?_
 refine WpC.seq ?_;refine zR ?_;refine WpC.block ?_;refine WpC.loopK [2,3,6,8,9,46,47] [10,48] (n) (():Unit) (λk _=>[(10,.d (dI ((t-bm pn k:Nat):Int))),(48,.d (.int .i64 k))]) (λk _=>[.cells 3 [.d (dI t)],.cells 30 [.d (.list 1 (aA wf n))],.cells 3 [.d (dI s)],.arr 3 1 (aA (pk pf k) n),.arr 3 1 (aA (pk (λi=>(i:Int)) k) n)]) (λk _=>True) (by simp -implicitDefEqProofs[H]<;>rfl) (Gh.cut' [10,48,2,3,6,8,9,46,47] 5 (by simp -implicitDefEqProofs[H]) (by simp -implicitDefEqProofs[H]) rfl (by simp) (by simp) (by simp)) (by trivial) ?_
 rintro k ⟨⟩ hk hi;simp only[List.cons_append,List.nil_append];refine zR ?_;refine WpC.seq (zL (k<n) (λhlt=>?_) (λhge=>?_))
 ·refine WpC.skip ?_;have hst1:=sU pf k;have hst2:=sU (λi=>(i:Int)) k
  have hst3:=bf pn k;have hmo:=ig pn (show k+1<=n from hlt)
  obtain⟨w,hw⟩:∃w:Nat,wf k=w:=⟨(wf k).toNat,by have:=(hwn k hlt).1;omega⟩
  have hwk:=hwn k hlt;rw[hw] at hwk;unfold inN at hwk;have hws:w<=s:=by
   have h1:(wf k).toNat<=bm (λi=>(wf i).toNat) (k+1):=by rw[bf];omega
   have h2:=ig (λi=>(wf i).toNat) (show k+1<=n from hlt)
   rw[hsumw] at h2;omega
  have hmd:=nQ t w s (by unfold aC at hT;omega) hws hs0 (by omega)
  have hq:t*w/s=pn k:=by rw[<-hpn];simp only[hw];rfl
  rw[hq] at hmd;obtain⟨v,hv⟩:∃v,pn k=v:=⟨_,rfl⟩
  have hpk:=hpi k;rw[hv] at hmd hst3 hpk;rw[hpk] at hst1;have hkw:IntKind.i64.wrap ((k:Int)+1)=k+1:=am (by omega) (by omega)
  have hsub:IntKind.i64.wrap (((t-bm pn k:Nat):Int)-v)=((t-bm pn (k+1):Nat):Int):=by unfold aC at hT;rw[am (by omega) (by omega)];omega
  obtain⟨A,hA⟩:∃A,pk pf k=A:=⟨_,rfl⟩
  obtain⟨B,hB⟩:∃B,pk (λi=>(i:Int)) k=B:=⟨_,rfl⟩
  rw[hA] at hst1;rw[hB] at hst2;have hup:upd A k (v:Int) k=(v:Int):=if_pos rfl;replace H:=And.intro hlt (And.intro hw (And.intro hkw (And.intro hsub (And.intro hA (And.intro hB (And.intro hup H))))));refine WpC.seq ?_;refine WpC.block ?_;refine zR ?_;refine WpC.seq ?_;refine WpC.region ?_;refine zO 5 ?_;refine zG lq (hmd) ?_;refine zO 5 ?_;refine WpO.nil ?_;refine zR ?_;iterate 2 refine zr ?_
  exact⟨hlt,(),trivial,Gh.cut' [10,48,2,3,6,8,9,46,47] 5 (by simp -implicitDefEqProofs[H,hst1,hst2,hst3]) (by simp -implicitDefEqProofs[H,hst1,hst2,hst3]) rfl (by simp) (by simp) (by simp)⟩
 refine WpC.exit ?_;have hkn:n=k:=by omega
 subst hkn;have hall1:=wB pf n;have hall2:=wB (λi=>(i:Int)) n
 rw[hlft];replace H:=And.intro hall1 (And.intro hall2 H);refine WpC.seq ?_;refine WpC.region ?_;refine zO 1 ?_;refine zP [3] Cc (qO (aA pf n) n (by simp) (by omega)) ?_
 refine zO 2 ?_;refine WpO.nil ?_;refine WpC.seq ?_;refine WpC.region ?_;refine WpO.run tabOk 2 (by simp -implicitDefEqProofs<;>first|exact⟨rfl,rfl⟩|rfl) ?_
 refine WpO.gh (Gh.frzO [0,1,2,5,6] [(77,.fn 83 [.dp [dI t],.dp [dI s],.dp [.list 1 (aA wf n)],.dp [.list 1 (aA pf n)]])] (λp hp=>⟨.fn 83 [.ref 0 0,.ref 2 0,.ref 1 0,.ref 6 0],by simp at hp;subst hp;simp,by simp at hp;subst hp;simp[cO]⟩)) ?_
 simp only[cO];refine WpO.callP [4] (by simp) rfl (by simp -implicitDefEqProofs<;>rfl) (by simp -implicitDefEqProofs<;>rfl) Cb (by simp) (by simp) (by simp) (by simp -implicitDefEqProofs) (by simp;rfl) (by simp -implicitDefEqProofs) hso λr S1 hr=>?_
 obtain⟨h,rfl,rfl,m1,t1⟩:=hr;refine⟨_,by simp -implicitDefEqProofs<;>rfl,?_⟩
 refine WpO.nil ?_;refine WpC.seq ?_;have hlf1:lft<=n:=by omega
 have hlf2:(lft:Int)<=n:=by omega
 obtain⟨hin,hinj,hrk,hsj⟩:=G8 hcm m1 t1;have hz5:aA pf n=aA (iB pf h 0) n:=fH λi hi=>by simp[iB]
 replace H:=And.intro hlf1 (And.intro hlf2 H);refine zR ?_;refine WpC.block ?_;refine WpC.loopK [8,81,82] [83] (lft) (():Unit) (λk _=>[(83,.d (.int .i64 k))]) (λk _=>[.gone,.gone,.gone,.arr 3 1 (aA (iB pf h k) n),.arr 3 1 (aA h n)]) (λk _=>True) (by simp -implicitDefEqProofs[H]<;>rfl) (Gh.cut' [83,8,81,82] 5 (by simp -implicitDefEqProofs[hlf1,hlf2]) (by simp -implicitDefEqProofs[hz5]) rfl (by simp) (by simp) (by simp)) (by trivial) ?_
 rintro k ⟨⟩ hk hi;simp only[List.cons_append,List.nil_append];refine zR ?_;refine WpC.seq (zL (k<lft) (λhlt=>?_) (λhge=>?_))
 ·refine WpC.skip ?_;obtain⟨hk0,hkn⟩:=hin k (by omega)
  obtain⟨q,hq⟩:∃q:Nat,h k=q:=⟨(h k).toNat,by omega⟩
  have hstep:=uT pf (h:=h) (k:=k) hk0;have hqn:q<n:=by omega
  have hcnt:(List.range k).countP (λp=>decide (h p=(q:Int)))<=k:=Nat.le_trans List.countP_le_length (by simp)
  have hval:iB pf h k q<=(pn q:Int)+k/\0<=iB pf h k q:=by
   unfold iB;rw[hpi];omega
  have hpq:pn q<=bm pn n:=by
   have h1:pn q<=bm pn (q+1):=by rw[bf];omega
   have h2:=ig pn (show q+1<=n from hqn)
   omega
  have hkw:IntKind.i64.wrap ((k:Int)+1)=k+1:=am (by omega) (by omega)
  have hwq:IntKind.i64.wrap (iB pf h k q+1)=iB pf h k q+1:=am (by omega) (by unfold aC at hT;omega)
  rw[hq,Int.toNat_natCast] at hstep;obtain⟨A,hA⟩:∃A,iB pf h k=A:=⟨_,rfl⟩
  rw[hA] at hwq hstep;have hkn2:k<n:=by omega
  replace H:=And.intro hlt (And.intro hq (And.intro hqn (And.intro hkw (And.intro hwq (And.intro hA (And.intro hkn2 H))))));refine WpC.seq ?_;refine WpC.block ?_;refine zR ?_;iterate 2 refine zr ?_
  exact⟨hlt,(),trivial,Gh.cut' [83,8,81,82] 5 (by simp -implicitDefEqProofs[H,hstep]) (by simp -implicitDefEqProofs[H,hstep]) rfl (by simp) (by simp) (by simp)⟩
 refine WpC.exit ?_;have hkl:lft=k:=by omega
 subst hkl;have hfin:aA (iB pf h lft) n=aA (j3 (t:Int) ws) n:=fH λi hi=>by
  rw[xm pf hcm m1 t1 hlf1 hi];unfold j3;rw[hpfe,hwf,hs,hn,hspL]
 refine zR ?_;refine WpC.ret ?_;try simp only[aa,aj]
 refine zE ?_;simp[e0,spR,hn,hfin]
structure f_ (g h:Nat->Int) (n m:Nat):Prop where
 up:∀i j,i<j->j<m->h i<h j
 all:∀i,i<n->∃j,j<m/\h j=g i
 some:∀j,j<m->∃i,i<n/\h j=g i
theorem f_.none (g:Nat->Int):f_ g g 0 0:=⟨λ_ _ _ h=>by omega,λ_ h=>by omega,λ_ h=>by omega⟩
theorem f_.first {g:Nat->Int} {n k:Nat} (hs:bz cI g 0 n) (hk:k<=n) (hne:∀i,0<i->i<k->g i≠g (i-1)):f_ g g k k:=by
 refine⟨λi j hij hj=>?_,λi hi=>⟨i,hi,rfl⟩,λi hi=>⟨i,hi,rfl⟩⟩
 have h1:g (j-1)<g j:=by
  have h2:=hs (j-1) j (Nat.zero_le _) (by omega) (by omega)
  rw[rh] at h2;have h3:=hne j (by omega) hj
  omega
 by_cases e:i=j-1
 ·rw[e];exact h1
 ·have h2:=hs i (j-1) (Nat.zero_le _) (by omega) (by omega)
  rw[rh] at h2;omega
theorem f_.same {g h:Nat->Int} {n m:Nat} (k:f_ g h n m) (hm:0<m) (hl:h (m-1)=g (n-1)) (he:g n=g (n-1)):f_ g h (n+1) m:=
 ⟨k.up,λi hi=>by
  by_cases e:i=n
  ·exact⟨m-1,by omega,by rw[e,he,hl]⟩
  ·exact k.all i (by omega),λj hj=>by
  obtain⟨i,hi,e⟩:=k.some j hj;exact⟨i,by omega,e⟩⟩
theorem f_.next {g h:Nat->Int} {n m:Nat} (k:f_ g h n m) (hm:0<m) (hl:h (m-1)=g (n-1)) (he:g (n-1)<g n):f_ g (upd h m (g n)) (n+1) (m+1):=by
 have hu:∀i,i<m->upd h m (g n) i=h i:=λi hi=>if_neg (by omega)
 have hm':upd h m (g n) m=g n:=if_pos rfl;refine⟨λi j hij hj=>?_,λi hi=>?_,λj hj=>?_⟩
 ·by_cases e:j=m
  ·subst e;rw[hm',hu i hij];by_cases e2:i=j-1
   ·rw[e2,hl];exact he
   ·have:=k.up i (j-1) (by omega) (by omega)
    omega
  ·rw[hu i (by omega),hu j (by omega)];exact k.up i j hij (by omega)
 ·by_cases e:i=n
  ·exact⟨m,by omega,by rw[hm',e]⟩
  ·obtain⟨j,hj,e2⟩:=k.all i (by omega)
   exact⟨j,by omega,by rw[hu j hj,e2]⟩
 ·by_cases e:j=m
  ·exact⟨n,by omega,by rw[e,hm']⟩
  ·obtain⟨i,hi,e2⟩:=k.some j (by omega)
   exact⟨i,by omega,by rw[hu j (by omega),e2]⟩
theorem f_.cut {g h:Nat->Int} {n m:Nat} (k:f_ g h n m):f_ g (pk h m) n m:=by
 have hp:∀i,i<m->pk h m i=h i:=λi hi=>if_pos hi
 refine⟨λi j hij hj=>?_,λi hi=>?_,λj hj=>?_⟩
 ·rw[hp i (by omega),hp j hj];exact k.up i j hij hj
 ·obtain⟨j,hj,e⟩:=k.all i hi;exact⟨j,hj,by rw[hp j hj,e]⟩
 ·obtain⟨i,hi,e⟩:=k.some j hj;exact⟨i,hi,by rw[hp j hj,e]⟩
theorem AW (h:Nat->Int) {k n:Nat} (hk:k<=n):(aA h n).take k++List.replicate (n-k) (D.int .i64 0)=aA (pk h k) n:=by
 apply List.ext_getElem?;intro i;by_cases hi:i<n
 ·rw[ez hi];by_cases h1:i<k
  ·rw[List.getElem?_append_left (by simp;omega),List.getElem?_take_of_lt h1,ez hi];simp[pk,h1]
  ·rw[List.getElem?_append_right (by simp;omega),List.getElem?_replicate,if_pos (by simp;omega)];simp[pk,h1]
 ·rw[List.getElem?_eq_none (by simp;omega),List.getElem?_eq_none (by simp;omega)]
set_option maxHeartbeats 4000000 in
theorem r7 (g:Nat->Int) (n:Nat) (hn:n<=12) (hs:bz cI g 0 n):
 WpF Tryz.prog 77 [.sl 0 n] [.arr 3 1 (aA g n)]
  λr S=>∃h m,m<=n/\r= .sl 0 m/\S=[.arr 3 1 (aA h n)]/\f_ g h n m:=by
 refine WpF.enter tabOk Tryz.func77 rfl (by show 1<=61;decide) ?_
 simp only[Tryz.f77];have H:=trivial;refine zR ?_;refine WpC.seq ?_;refine zR ?_;refine zD ((n:Int)<2) (λd8=>?_) (λd8=>?_)
 ·replace H:=And.intro d8 H;refine zR ?_;refine WpC.ret ?_;refine⟨.inr rfl,_,by simp -implicitDefEqProofs<;>rfl,?_,by simp⟩
  exact⟨g,n,Nat.le_refl _,rfl,rfl,f_.first hs (Nat.le_refl _) λi q1 q2=>by omega⟩
 have hn2:2<=n:=by omega
 replace H:=And.intro d8 H;refine WpC.skip ?_;refine WpC.seq ?_;refine zR ?_;refine WpC.block ?_;refine WpC.loopM [0] [3] (λx=>n-x) (1:Nat) (λx=>[(3,.d (dI (x:Nat)))]) (λx=>[.arr 3 1 (aA g n)]) (λx=>1<=x/\x<=n/\∀i,0<i->i<x->g i≠g (i-1)) (by simp -implicitDefEqProofs[H]<;>rfl) (Gh.cut' [3,0] 1 (by simp -implicitDefEqProofs[H]) (by simp -implicitDefEqProofs[H]) rfl (by simp) (by simp) (by simp)) (⟨by simp,by omega,λi h1 h2=>by omega⟩) ?_
 rintro x hi;simp only[List.cons_append,List.nil_append];refine WpC.seq ?_;refine zR ?_;refine zC (λc13=>?_) (λc13=>?_)
 ·have c13':=zN c13;have hxn:x<n:=by simpa using c13
  obtain⟨p,hp⟩:∃p,x=p+1:=⟨x-1,by omega⟩
  subst hp;have hpq:p+1-1=p:=by omega
  have hw1:IntKind.i64.wrap (((p+1:Nat):Int)-1)=(p:Int):=by rw[am (by omega) (by omega)];omega
  have hw2:IntKind.i64.wrap ((p:Int))=(p:Int):=am (by omega) (by omega)
  have hw3:IntKind.i64.wrap ((p:Int)+1+1)=(p:Int)+2:=by rw[am (by omega) (by omega)];omega
  have hpn:p<n:=by omega
  have hp0:p+1<n:=by omega
  have hp5:p+1<=n:=by omega
  have hp1:(p:Int)+1<n:=by omega
  have hp2:(0:Int)<=(p:Int)+1:=by omega
  have hp3:(p:Int)+1<=n:=by omega
  replace H:=And.intro c13 (And.intro hpq (And.intro hp0 (And.intro hp5 (And.intro hw1 (And.intro hw2 (And.intro hw3 (And.intro hpn (And.intro hp1 (And.intro hp2 (And.intro hp3 H))))))))));refine WpC.skip ?_;refine WpC.seq ?_;refine WpC.block ?_;refine WpC.seq (WpC.drawn tabOk (by kernel_rfl) 0 (by simp) ?_)
  iterate 3 refine yO 3 ?_
  refine yO 1 ?_;refine DrO.nil ⟨by kernel_rfl,?_⟩
  refine zD (g (p+1)=g p) (λd25=>?_) (λd25=>?_)
  ·have hk0:=(f_.first hs (show p+1<=n by omega) hi.2.2).same (Nat.succ_pos p) rfl (show g (p+1)=g (p+1-1) by rw[hpq];exact d25)
   replace H:=And.intro d25 H;refine zR ?_;refine WpC.seq ?_;refine zR ?_;refine WpC.block ?_;refine WpC.loopM [0,4] [3,5] (λy=>n-y.1) ((1,p+1,g):Nat×Nat×(Nat->Int)) (λy=>[(3,.d (dI (y.2.1:Nat))),(5,.d (dI (y.1:Nat)))]) (λy=>[.arr 3 1 (aA y.2.2 n)]) (λy=>1<=y.1/\p+1+y.1<=n/\y.2.1<=p+y.1/\0<y.2.1/\y.2.2 (y.2.1-1)=g (p+y.1)/\(∀i,p+y.1<=i->y.2.2 i=g i)/\f_ g y.2.2 (p+1+y.1) y.2.1) (by simp -implicitDefEqProofs[H]<;>rfl) (Gh.cut' [3,5,0,4] 1 (by simp -implicitDefEqProofs[H]) (by simp -implicitDefEqProofs[H]) rfl (by simp) (by simp) (by simp)) (⟨by simp,by simp;omega,by simp,by simp,d25.symm,λi _=>rfl,hk0⟩) ?_
   rintro y hi;simp only[List.cons_append,List.nil_append];obtain⟨c,k,h⟩:=y;obtain⟨i1,i2,i3,i4,i5,i6,i7⟩:=hi;simp only at i1 i2 i3 i4 i5 i6 i7 ⊢;refine WpC.seq ?_;refine zR ?_;refine zC (λc32=>?_) (λc32=>?_)
   ·have c32':=zN c32;have hcn:c<n-(p+1):=by simpa using c32
    obtain⟨c1,hc1⟩:∃c1,c=c1+1:=⟨c-1,by omega⟩
    subst hc1;have v1:IntKind.i64.wrap ((c1:Int))=(c1:Int):=am (by omega) (by omega)
    have v2:IntKind.i64.wrap ((c1:Int)+1+1)=(c1:Int)+1+1:=am (by omega) (by omega)
    have v3:IntKind.i64.wrap ((k:Int)+1)=(k:Int)+1:=am (by omega) (by omega)
    have v4:c1<n-(p+1):=by omega
    have v5:(0:Int)<=(c1:Int)+1:=by omega
    have v6:(c1:Int)+1<((n-(p+1):Nat):Int):=by omega
    have v7:c1+1<n-(p+1):=by omega
    have v8:p+1+(c1+1)<n:=by omega
    have v9:p+1+c1<n:=by omega
    have v10:k<n:=by omega
    have v11:h (p+1+(c1+1))=g (p+1+(c1+1)):=i6 _ (by omega)
    have v12:h (p+1+c1)=g (p+1+c1):=i6 _ (by omega)
    replace H:=And.intro c32 (And.intro v1 (And.intro v2 (And.intro v3 (And.intro v4 (And.intro v5 (And.intro v6 (And.intro v7 (And.intro v8 (And.intro v9 (And.intro v10 (And.intro v11 (And.intro v12 H))))))))))));refine WpC.skip ?_;refine WpC.seq ?_;refine WpC.block ?_;refine WpC.seq (WpC.drawn tabOk (by kernel_rfl) 0 (by simp) ?_)
    iterate 3 refine yO 3 ?_
    refine yO 1 ?_;refine DrO.nil ⟨by kernel_rfl,?_⟩
    refine zD (g (p+1+(c1+1))≠g (p+1+c1)) (λd44=>?_) (λd44=>?_)
    ·have hlt:g (p+1+(c1+1)-1)<g (p+1+(c1+1)):=by
      have q:=hs (p+1+c1) (p+1+(c1+1)) (Nat.zero_le _) (by omega) (by omega)
      rw[rh] at q;rw[show p+1+(c1+1)-1=p+1+c1 by omega]
      omega
     have hpe:p+(c1+1)=p+1+(c1+1)-1:=by omega
     have hke:=i7.next i4 (by rw[i5,hpe]) hlt
     have hu1:upd h k (g (p+1+(c1+1))) (k+1-1)=g (p+(c1+1+1)):=by rw[show k+1-1=k by omega,show p+(c1+1+1)=p+1+(c1+1) by omega];exact if_pos rfl
     have hu2:∀i,p+(c1+1+1)<=i->upd h k (g (p+1+(c1+1))) i=g i:=λi q=>(if_neg (by omega)).trans (i6 i (by omega))
     replace H:=And.intro d44 H;refine zR ?_;iterate 2 refine zr ?_
     exact⟨(c1+1+1,k+1,upd h k (g (p+1+(c1+1)))),⟨by simp,by simp;omega,by simp;omega,by simp,hu1,hu2,hke⟩,by simp;omega,Gh.cut' [3,5,0,4] 1 (by simp -implicitDefEqProofs[H,c13',c32']) (by simp -implicitDefEqProofs[H,c13',c32']) rfl (by simp) (by simp) (by simp)⟩
    have hee:g (p+1+(c1+1))=g (p+1+c1):=Classical.not_not.1 d44;have hpe:p+(c1+1)=p+1+(c1+1)-1:=by omega
    have hke:=i7.same i4 (by rw[i5,hpe]) (by rw[show p+1+(c1+1)-1=p+1+c1 by omega];exact hee)
    have hu1:h (k-1)=g (p+(c1+1+1)):=by rw[i5,show p+(c1+1+1)=p+1+(c1+1) by omega,hee,show p+(c1+1)=p+1+c1 by omega]
    replace H:=And.intro d44 H;refine WpC.skip ?_;refine zr ?_;exact⟨(c1+1+1,k,h),⟨by simp,by simp;omega,by simp;omega,i4,hu1,λi q=>i6 i (by simp at q;omega),hke⟩,by simp;omega,Gh.cut' [3,5,0,4] 1 (by simp -implicitDefEqProofs[H,c13',c32']) (by simp -implicitDefEqProofs[H,c13',c32']) rfl (by simp) (by simp) (by simp)⟩
   have c32':=zN c32;replace H:=And.intro c32 H;refine WpC.exit ?_;refine WpC.seq ?_;have hcn:¬c<n-(p+1):=by simpa using c32
   have hcn2:p+1+c=n:=by omega
   have hkn:k<=n:=by omega
   have hkn2:(k:Int)<=n:=by omega
   have hrc:=AW h hkn;rw[hcn2] at i7;have hke:=i7.cut;refine WpC.region ?_;refine WpO.run tabOk 3 (by simp -implicitDefEqProofs[hkn,hkn2]<;>first|exact⟨rfl,rfl⟩|rfl) ?_
   refine WpO.step (by simp) (bK.clear (id:=0) (off:=k) (n:=n-k) (xs:=aA h n) tabOk rfl (by simp) vI rfl lP rfl (by simp) (by omega) (by simp;omega) (by simp;rfl)) ?_
   refine WpO.nil ?_;replace H:=And.intro hkn (And.intro hkn2 (And.intro hrc H));refine zR ?_;refine WpC.ret ?_;refine⟨.inr rfl,_,by simp -implicitDefEqProofs<;>rfl,?_,by simp⟩
   exact⟨pk h k,k,hkn,rfl,by simp[<-hrc],hke⟩
  replace H:=And.intro d25 H;refine WpC.skip ?_;refine zr ?_;exact⟨p+2,⟨by omega,by omega,λi h1 h2=>by rcases Nat.lt_or_ge i (p+1) with q|q;exact hi.2.2 i h1 q;rw[show i=p+1 by omega,hpq];exact d25⟩,by omega,Gh.cut' [3,0] 1 (by simp -implicitDefEqProofs[H,c13']) (by simp -implicitDefEqProofs[H,c13']) rfl (by simp) (by simp) (by simp)⟩
 have c13':=zN c13;replace H:=And.intro c13 H;refine WpC.exit ?_;refine zR ?_;have hxn:x=n:=by simp at c13;omega
 refine WpC.ret ?_;refine⟨.inr rfl,_,by simp -implicitDefEqProofs<;>rfl,?_,by simp⟩
 exact⟨g,n,Nat.le_refl _,rfl,rfl,f_.first hs (Nat.le_refl _) (hxn▸hi.2.2)⟩
def spS (T:Int) (ws:List Int):List Int:=if spE T ws=0 then(List.range ws.length).map (j3 T ws) else []
theorem wm (f:Nat->Int) (n:Nat):aA f n=((List.range n).map f).map dI:=by simp[aA]
theorem AI (T:Int) (ws:List Int):spR T ws=(spS T ws).map dI:=by
 unfold spR spS;split
 ·exact wm _ _
 ·rfl
theorem ul (T:Int) (ws:List Int) (hT:aC T) (hws:∀x∈ws,aC x) (hlen:ws.length<=1000000):
 ah Tryz.prog 52 [.d (dI T),.d (.list 1 (ws.map dI))] (.tup [.d (.list 1 ((spS T ws).map dI)),.d (dI (spE T ws))]):=by
 rw[<-AI];exact vU T ws hT hws hlen
theorem em {α:Type} {P Q:α->Bool}:∀ {l:List α},(∀x∈l,P x=true->Q x=true)->l.countP P<=l.countP Q
 |[],_=>by simp
 |x::l,h=>by
  have ih:=em (l:=l) λy hy=>h y (by simp[hy])
  have hx:=h x (by simp)
  rw[List.countP_cons,List.countP_cons];cases hp:P x<;>cases hq:Q x<;>simp_all<;>omega
theorem fZ {α:Type} {P Q:α->Bool}:∀ {l:List α},(∀x∈l,P x=true->Q x=true)->(∃x∈l,P x=false/\Q x=true)->l.countP P<l.countP Q
 |[],_,h=>by obtain⟨x,hx,_⟩:=h;simp at hx
 |x::l,h,⟨y,hy,hy2⟩=>by
  have hl:=em (P:=P) (Q:=Q) (l:=l) λy hy=>h y (by simp[hy])
  have hx:=h x (by simp)
  rw[List.countP_cons,List.countP_cons];rcases List.mem_cons.1 hy with rfl|hy
  ·rw[hy2.1,hy2.2];simp;omega
  ·have ih:=fZ (P:=P) (Q:=Q) (l:=l) (λy hy=>h y (by simp[hy])) ⟨y,hy,hy2⟩
   cases hp:P x<;>cases hq:Q x<;>simp_all<;>omega
section
variable {c:Int->Int->Int} {n:Nat}
theorem fV {i:Nat} (h:i<n):okS n (i:Int):=⟨by omega,by omega⟩
theorem mW (hc:Cmp c (okS n)) {i j:Nat} (hi:i<n) (hj:j<n) (h:c (j:Int) (i:Int)<0):ahead c n j<ahead c n i:=by
 unfold ahead;refine fZ (λk hk hkj=>?_) ⟨j,List.mem_range.2 hj,?_,decide_eq_true h⟩
 ·have hkn:=List.mem_range.1 hk;exact decide_eq_true (hc.tr _ _ _ (fV hkn) (fV hj) (fV hi) (of_decide_eq_true hkj) h)
 ·exact decide_eq_false (hc.irr (fV hj))
theorem vf (hc:Cmp c (okS n)) {i j:Nat} (hi:i<n) (hj:j<n) (h:ahead c n i=ahead c n j):i=j:=by
 apply Classical.byContradiction;intro hne;rcases hc.tot (i:Int) (j:Int) (fV hi) (fV hj) (by omega) with h1|h1
 ·have:=mW hc hj hi h1;omega
 ·have:=mW hc hi hj h1;omega
theorem yJ (hc:Cmp c (okS n)) {i:Nat} (hi:i<n):ahead c n i<n:=by
 have h1:ahead c n i<(List.range n).countP λ_=>true:=fZ (λ_ _ _=>rfl) ⟨i,List.mem_range.2 hi,decide_eq_false (hc.irr (fV hi)),rfl⟩
 simpa using h1
theorem rq (hc:Cmp c (okS n)) {l:Nat} (hl:l<=n):(List.range n).countP (λ(i:Nat)=>decide (ahead c n i<l))=l:=by
 have hp:=Hf (n:=n) (f:=λi=>ahead c n i) (λi hi=>yJ hc hi) (λi j hi hj h=>vf hc hi hj h)
 have e:(List.range n).countP (λ(i:Nat)=>decide (ahead c n i<l))=((List.range n).map λ(i:Nat)=>ahead c n i).countP λx=>decide (x<l):=by rw[List.countP_map];rfl
 rw[e,hp.countP_eq];exact oc n l hl
end
theorem yD (t s:Nat) (w p:Nat->Nat) (hp:∀i,p i=t*w i/s) (wf pf:Nat->Int) (hw:∀i,wf i=w i) (hpf:∀i,pf i=p i) (j i:Nat):cS t s wf pf (j:Int) (i:Int)<0↔(t*w i%s<t*w j%s\/(t*w i%s=t*w j%s/\j<i)):=by
 have hr:∀k,(t:Int)*wf k-pf k*s=((t*w k%s:Nat):Int):=λk=>by
  rw[hw,hpf,hp,<-Int.natCast_mul,<-Int.natCast_mul];have:=Nat.div_add_mod' (t*w k) s;omega
 have e:∀i j,fa t s wf pf i j=true↔t*w i%s<t*w j%s:=λi j=>by
  have h1:=hr i;have h2:=hr j;unfold fa;rw[decide_eq_true_iff,Int.mul_sub,Int.sub_mul];omega
 unfold cS;simp only[Int.toNat_natCast];by_cases h1:fa t s wf pf i j=true
 ·rw[if_pos h1];have:=(e _ _).1 h1;omega
 ·rw[if_neg h1];have h1':¬_:=λq=>h1 ((e _ _).2 q)
  by_cases h2:fa t s wf pf j i=true
  ·rw[if_pos h2];have:=(e _ _).1 h2;omega
  ·rw[if_neg h2];have h2':¬_:=λq=>h2 ((e _ _).2 q)
   omega
structure yL (T:Int) (ws:List Int) (t s:Nat) (w:Nat->Nat):Prop where
 n60:ws.length<=60
 t_:T=t
 s_:ws.sum=s
 s0:0<s
 w_:∀i,spW ws i=w i
 sw:bm w ws.length=s
 sm:(s:Int)<=9223372036854775807
theorem DY {T:Int} {ws:List Int} (h:spE T ws=0):∃t s w,yL T ws t s w:=by
 unfold spE at h;split at h
 ·simp at h
 ·rename_i h60;split at h
  ·simp at h
  ·rename_i hneg;split at h
   ·simp at h
   ·rename_i hs;split at h
    ·simp at h
    ·rename_i hz;have h0:∀x∈ws,0<=x:=λx hx=>by
      have hf:(ws.any λw=>decide (w<0))=false:=by
       cases hb:(ws.any λw=>decide (w<0)) with
       |false=>rfl
       |true=>exact absurd (.inr hb) hneg
      rw[List.any_eq_false] at hf;have:=hf x hx;simp at this;omega
     have hsum:=cX h0;have hsb:oB ws=true:=by cases hb:oB ws with
      |true=>rfl
      |false=>exact absurd hb hs
     have hsM:=of_decide_eq_true hsb;refine⟨T.toNat,ws.sum.toNat,λi=>(spW ws i).toNat,⟨by omega,by omega,by omega,by omega,λi=>?_,sC h0,by omega⟩⟩
     have:0<=spW ws i:=by
      unfold spW;cases hi:ws[i]? with
      |none=>simp
      |some x=>exact h0 x (List.mem_of_getElem? hi)
     omega
section
variable {T:Int} {ws:List Int} {t s:Nat} {w:Nat->Nat}
def ptN (t s n:Nat) (w:Nat->Nat) (i:Nat):Nat:=t*w i/s+if ahead (cS t s (λi=>(w i:Int)) (λi=>((t*w i/s:Nat):Int))) n i<t-bm (λi=>t*w i/s) n then 1 else 0
theorem um (h:yL T ws t s w) (i:Nat):j3 T ws i=ptN t s ws.length w i:=by
 have e1:spN T ws=λi=>t*w i/s:=by
  funext i;unfold spN;rw[h.w_,h.t_,h.s_];rfl
 have e2:spP T ws=λi=>((t*w i/s:Nat):Int):=by funext i;unfold spP;rw[e1]
 have e3:spW ws=λi=>(w i:Int):=by funext i;exact h.w_ i
 unfold j3 ptN spL;rw[e1,e2,e3,h.t_,h.s_];simp only[Int.toNat_natCast];split<;>simp
theorem vV (h0:spE T ws=0) (h:yL T ws t s w):spS T ws=(List.range ws.length).map λi=>(ptN t s ws.length w i:Int):=by
 unfold spS;rw[if_pos h0];exact List.map_congr_left λi _=>um h i
end
section
variable {t s n:Nat} {w:Nat->Nat}
theorem CG (t s n:Nat) (w:Nat->Nat):Cmp (cS t s (λi=>(w i:Int)) (λi=>((t*w i/s:Nat):Int))) (okS n):=yE _ _ _ _ n
theorem AZ (hw:bm w n=s):(t-bm (λi=>t*w i/s) n)*s=bm (λi=>t*w i%s) n:=by
 have h:=lR t s w n;rw[hw] at h;rw[Nat.sub_mul];omega
theorem uL (hs:0<s) (hw:bm w n=s):t-bm (λi=>t*w i/s) n<=(List.range n).countP λi=>decide (0<t*w i%s):=by
 have h1:=AZ (t:=t) hw;have h2:∀k,bm (λi=>t*w i%s) k<=(List.range k).countP (λi=>decide (0<t*w i%s))*s:=λk=>by
  induction k with
  |zero=>simp[bm]
  |succ k ih=>
   rw[bf,List.range_succ,List.countP_append,Nat.add_mul];have h3:=Nat.mod_lt (t*w k) hs;by_cases h4:0<t*w k%s
   ·simp[h4];omega
   ·simp[h4];omega
 have h3:=h2 n;rw[<-h1] at h3;exact Nat.le_of_mul_le_mul_right h3 hs
theorem sP (hs:0<s) (hw:bm w n=s) {i:Nat} (hi:i<n) (h0:w i=0):ptN t s n w i=0:=by
 unfold ptN;have h1:=uL (t:=t) hs hw;have h2:(List.range n).countP (λj=>decide (0<t*w j%s))<=ahead (cS t s (λi=>(w i:Int)) (λi=>((t*w i/s:Nat):Int))) n i:=by
  unfold ahead;refine em λj hj h=>?_
  refine decide_eq_true ?_;rw[yD t s w _ (λ_=>rfl) _ _ (λ_=>rfl) (λ_=>rfl)]
  have:=of_decide_eq_true h;rw[h0];simp;omega
 rw[if_neg (by omega),h0];simp
theorem A5 {i j:Nat} (hi:i<n) (hj:j<n) (h:w j<w i):ptN t s n w j<=ptN t s n w i:=by
 have hm:t*w j<=t*w i:=Nat.mul_le_mul_left _ (by omega)
 have hd:t*w j/s<=t*w i/s:=Nat.div_le_div_right hm;unfold ptN;by_cases he:t*w j/s=t*w i/s
 ·have h3:ahead (cS t s (λi=>(w i:Int)) (λi=>((t*w i/s:Nat):Int))) n j<t-bm (λi=>t*w i/s) n->ahead (cS t s (λi=>(w i:Int)) (λi=>((t*w i/s:Nat):Int))) n i<t-bm (λi=>t*w i/s) n:=λhl=>by
   have ht:0<t:=by omega
   have hlt:t*w j<t*w i:=Nat.mul_lt_mul_of_pos_left h ht;have e1:=Nat.div_add_mod' (t*w i) s;have e2:=Nat.div_add_mod' (t*w j) s;rw[he] at e2;have hle:ahead (cS t s (λi=>(w i:Int)) (λi=>((t*w i/s:Nat):Int))) n i<=ahead (cS t s (λi=>(w i:Int)) (λi=>((t*w i/s:Nat):Int))) n j:=by
    unfold ahead;refine em λk hk h=>decide_eq_true ?_
    have h':=of_decide_eq_true h;rw[yD t s w _ (λ_=>rfl) _ _ (λ_=>rfl) (λ_=>rfl)] at h' ⊢
    omega
   omega
  split
  ·rename_i h4;rw[if_pos (h3 h4)];omega
  ·omega
 ·have h1:t*w j/s+1<=t*w i/s:=by omega
  split<;>omega
theorem Fm (hs:0<s) (hw:bm w n=s):bm (ptN t s n w) n=t:=by
 obtain⟨h1,h2⟩:=td (t:=t) hs hw;have h3:=rq (CG t s n w) h2;have key:∀(L k:Nat),bm (λi=>t*w i/s+if ahead (cS t s (λi=>(w i:Int)) (λi=>((t*w i/s:Nat):Int))) n i<L then 1 else 0) k=bm (λi=>t*w i/s) k+(List.range k).countP (λ(i:Nat)=>decide (ahead (cS t s (λi=>(w i:Int)) (λi=>((t*w i/s:Nat):Int))) n i<L)):=λL k=>by
  induction k with
  |zero=>simp[bm]
  |succ k ih=>
   rw[bf,bf,ih,List.range_succ,List.countP_append];by_cases h:ahead (cS t s (λi=>(w i:Int)) (λi=>((t*w i/s:Nat):Int))) n k<L
   ·simp[h];omega
   ·simp[h];omega
 show bm (λi=>t*w i/s+if ahead _ n i<_ then 1 else 0) n=t
 rw[key,h3];omega
end
theorem kF:∀(f:Nat->Nat) (n:Nat),((List.range n).map λi=>(f i:Int)).sum=(bm f n:Nat)
 |f,0=>rfl
 |f,n+1=>by
  rw[List.range_succ,List.map_append,List.sum_append,kF f n,bf];simp
structure Whole (T:Int) (ws l:List Int):Prop where
 T0:0<=T
 len:l.length=ws.length
 pos:∀i (h:i<l.length),0<=l[i]
 zero:∀i (h:i<l.length) (h':i<ws.length),ws[i]=0->l[i]=0
 mono:∀i j (hi:i<l.length) (hj:j<l.length) (hi':i<ws.length) (hj':j<ws.length),ws[j]<ws[i]->l[j]<=l[i]
 sum:l.sum=T
theorem FP {T:Int} {ws:List Int} (h:spE T ws=0):Whole T ws (spS T ws):=by
 obtain⟨t,s,w,ha⟩:=DY h;have hl:=vV h ha;have hn:(spS T ws).length=ws.length:=by rw[hl];simp
 have hat:∀i (hi:i<(spS T ws).length),(spS T ws)[i]=(ptN t s ws.length w i:Nat):=λi hi=>by simp[hl]
 have hwi:∀i (hi:i<ws.length),ws[i]=(w i:Int):=λi hi=>by rw[<-ha.w_ i];unfold spW;rw[List.getElem?_eq_getElem hi];rfl
 refine⟨by rw[ha.t_];omega,hn,λi hi=>by rw[hat i hi];omega,λi hi hi' h0=>?_,λi j hi hj hi' hj' hlt=>?_,?_⟩
 ·rw[hat i hi,sP (i:=i) ha.s0 ha.sw hi' (by have:=hwi i hi';omega)];rfl
 ·rw[hat i hi,hat j hj];have:=A5 (t:=t) (s:=s) (n:=ws.length) (w:=w) hi' hj' (by have:=hwi i hi';have:=hwi j hj';omega)
  omega
 ·rw[hl,kF,Fm ha.s0 ha.sw,ha.t_]
theorem Fc {T:Int} {ws:List Int} (h1:ws.length<=60) (h2:0<=T) (h3:∀x∈ws,0<=x):spE T ws=if 9223372036854775807<ws.sum then 3 else if ws.sum=0 then 4 else 0:=by
 have e:(ws.any λw=>decide (w<0))=false:=by
  rw[List.any_eq_false];intro x hx;have:=h3 x hx;simp;omega
 unfold spE oB;rw[if_neg (by omega),e,if_neg (by simp;omega)]
 by_cases h:ws.sum<=9223372036854775807
 ·rw[if_neg (by simp;omega),if_neg (by omega:¬9223372036854775807<ws.sum)]
 ·rw[if_pos (by simp;omega),if_pos (by omega)]
end Go.Proofs.YtlhmejigmokbhaaGreatDoor.Pay
