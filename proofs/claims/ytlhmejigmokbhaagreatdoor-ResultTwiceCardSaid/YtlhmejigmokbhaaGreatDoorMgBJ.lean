/- The texts OrA, one behind the other. No statement of the seed is proved here. -/
import Derived.Test.YtlhmejigmokbhaaGreatDoorMgI
import Derived.Test.YtlhmejigmokbhaaGreatDoorMgBF
namespace Go.Proofs.YtlhmejigmokbhaaGreatDoor.Pay
open Go Go.RowKit
set_option linter.unusedVariables false
set_option linter.unusedSimpArgs false
def eN:List Bd:=[⟨[98,97,115,101],1⟩,⟨[98,111,110,117,115],1⟩,⟨[104,111,117,114,115],3⟩,⟨[100,97,121,115],3⟩,⟨[108,101,97,100],4⟩]
theorem kq:jV Tryz.prog 91 [] rI 2 (eN.map Bd.enc):=by
 refine WpF.enter tabOk Tryz.func91 rfl (by show 0<=7;decide) ?_
 simp only[Tryz.f91];have H:=trivial;iterate 2 refine zR ?_
 refine WpC.ret ?_;refine⟨.inr rfl,_,by simp -implicitDefEqProofs<;>rfl,⟨by simp[eN],by simp[eN]⟩,by simp⟩
def nj (R:List Ru) (i:Nat):Int:=if i=0 then 0 else(R.getD (i-1) default).root+1
theorem ve (R:List Ru) (X:List Ex) (i:Nat) (hi:i<R.length) (hr:∀r∈R,0<=r.root/\r.root<X.length) (hX:X.length<=500000000) (hR:R.length<=500000000):ah Tryz.prog 162 [.d (.agg [aL R,aM X]),.d (dI i)] (.d (dI (nj R i))):=by
 refine ah.enter tabOk Tryz.func162 rfl (by show 2<=15;decide) ?_
 simp only[Tryz.f162];have H:=trivial;refine zR ?_;refine WpC.seq ?_;refine zR ?_;refine zD (i=0) (λd6=>?_) (λd6=>?_)
 ·replace H:=And.intro d6 H;refine zR ?_;refine WpC.ret ?_;try simp only[aa,aj]
  refine zE ?_;simp[nj,d6]
 obtain⟨j,rfl⟩:∃j,i=j+1:=⟨i-1,by omega⟩
 have hj:j<R.length:=by omega
 obtain⟨r,hrr⟩:∃r,R[j]=r:=⟨_,rfl⟩
 have hrb:=hr r (hrr▸List.getElem_mem hj);have hw1:IntKind.i64.wrap ((j:Int)+1-1)=j:=by rw[am (by omega) (by omega)];omega
 have hw3:IntKind.i64.wrap (j:Int)=j:=am (by omega) (by omega)
 have hw2:IntKind.i64.wrap (r.root+1)=r.root+1:=am (by omega) (by omega)
 have hb:nj R (j+1)=r.root+1:=by rw[nj,if_neg (by omega),Nat.add_sub_cancel,List.getD_eq_getElem?_getD,List.getElem?_eq_getElem hj,hrr];rfl
 replace H:=And.intro d6 (And.intro hj (And.intro hrr (And.intro hw1 (And.intro hw2 (And.intro hw3 H)))));refine WpC.skip ?_;refine zR ?_;refine WpC.ret ?_;try simp only[aa,aj]
 refine zE ?_;simp[hb]
def eE (ns:List (List UInt8)) (n:List UInt8):Option Nat:=ns.findIdx? λs=>decide (n=s)
theorem kp (n:List UInt8):∀(ns:List (List UInt8)) (i:Nat),jA (.str n) (ns.map D.str) i=some ((eE ns n).map (· +i))
 |[],i=>rfl
 |s::ns,i=>by
  rw[List.map_cons,jA,qt,Option.bind_some,eE,List.findIdx?_cons];by_cases h:n=s
  ·simp[h]
  ·simp only[h,decide_false,Bool.false_eq_true,if_false];rw[kp n ns (i+1),eE];cases ns.findIdx? λs=>decide (n=s) with
   |none=>rfl
   |some j=>simp only[Option.map_some,Option.some.injEq];omega
def nc (n:Nat):List D:=(List.range n).map λi:Nat=>dI i
theorem xo {n j:Nat} (h:j<n):(nc n)[j]?=some (dI j):=by rw[nc,List.getElem?_map,List.getElem?_range h];rfl
theorem ql {ns:List (List UInt8)} {n:List UInt8} {j:Nat} (h:eE ns n=some j):j<ns.length:=by
 rw[eE,List.findIdx?_eq_some_iff_getElem] at h;exact h.1
theorem ta (ns:List (List UInt8)) (n:List UInt8):lkD (dI 0) (nc ns.length) (eE ns n)=some (dI (((eE ns n).getD 0:Nat)),(eE ns n).isSome):=by
 cases h:eE ns n with
 |none=>rfl
 |some j=>simp only[lkD,xo (ql h),Option.map_some,Option.getD_some,Option.isSome_some]
def hg (ns:List (List UInt8)) (x:Ex):Option Int:=if x.op==[110,97,109,101] then(eE ns x.name).map (λj:Nat=>(j:Int)) else none
@[reducible] def mpD (ns:List (List UInt8)):D:= .map (ns.map D.str) (nc ns.length)
def lX (R:List Ru) (X:List Ex) (i:Nat):List Ex:=(X.take ((R.getD i default).root+1).toNat).drop (nj R i).toNat
def iF (R:List Ru) (X:List Ex) (ns:List (List UInt8)) (i:Nat):List Int:=(lX R X i).filterMap (hg ns)
set_option maxHeartbeats 4000000 in
theorem xr (R:List Ru) (X:List Ex) (ns:List (List UInt8)) (i:Nat) (hi:i<R.length) (hr:∀r∈R,0<=r.root/\r.root<X.length) (hp:R.Pairwise λa b=>a.root<=b.root) (hX:X.length<=500000000) (hR:R.length<=500000000) (hns:ns.length<=1000000000):
 ah Tryz.prog 119 [.d (.agg [aL R,aM X]),.d (dI i),.d (mpD ns)] (.d (.list 1 ((iF R X ns i).map dI))):=by
 have hb:=ve R X i hi hr hX hR;obtain⟨r,hrr⟩:∃r,R[i]=r:=⟨_,rfl⟩
 have hrm:=hr r (hrr▸List.getElem_mem hi);have hgd:R.getD i default=r:=by rw[List.getD_eq_getElem?_getD,List.getElem?_eq_getElem hi,hrr];rfl
 have hbr:0<=nj R i/\nj R i<=r.root+1:=by
  unfold nj;split
  ·omega
  ·have hj:i-1<R.length:=by omega
   rw[List.getD_eq_getElem?_getD,List.getElem?_eq_getElem hj,Option.getD_some];have h1:=hr _ (List.getElem_mem hj);have h2:=List.pairwise_iff_getElem.1 hp (i-1) i hj hi (by omega)
   rw[hrr] at h2;omega
 obtain⟨b,hbb⟩:∃b:Nat,nj R i=b:=⟨(nj R i).toNat,by omega⟩
 obtain⟨e,he⟩:∃e:Nat,r.root+1=e:=⟨(r.root+1).toNat,by omega⟩
 have hw:IntKind.i64.wrap (r.root+1)=(e:Int):=by rw[am (by omega) (by omega),he]
 have heX:e<=X.length:=by omega
 have hbe:b<=e:=by omega
 have hbe2:(b:Int)<=e:=by omega
 have heX2:(e:Int)<=X.length:=by omega
 have hS:lX R X i=(X.take e).drop b:=by rw[lX,hgd,he,hbb];rfl
 have hHS:iF R X ns i=((X.take e).drop b).filterMap (hg ns):=by rw[iF,hS]
 rw[hbb] at hb;obtain⟨L,hL⟩:∃L,(X.take e).drop b=L:=⟨_,rfl⟩
 have hLn:L.length=e-b:=by rw[<-hL,List.length_drop,List.length_take];omega
 have hLm:List.drop b (List.take e (X.map Ex.enc))=L.map Ex.enc:=by rw[<-hL,List.map_drop,List.map_take]
 have hLm2:List.take (e-b) (List.drop b (X.map Ex.enc))=L.map Ex.enc:=by rw[<-hLm,List.drop_take]
 rw[hHS,hL];refine ah.enter tabOk Tryz.func119 rfl (by show 3<=49;decide) ?_
 simp only[Tryz.f119];have H:=And.intro hw (And.intro hi (And.intro hrr (And.intro heX (And.intro hbe (And.intro hbe2 (And.intro heX2 (And.intro hLm hLm2)))))));iterate 2 refine zR ?_
 refine WpC.seq ?_;refine WpC.seq ?_;refine WpC.drawn tabOk (by kernel_rfl) 0 (by simp) ?_
 refine yO 3 ?_;refine yO 1 ?_;refine yG yg (hb) ?_;iterate 3 refine yO 3 ?_
 refine yO 1 ?_;refine DrO.nil ⟨by kernel_rfl,?_⟩
 refine WpC.block ?_;refine WpC.gh (Gh.nilArr 3 1 (t:=7) (by simp) (by simp)) ?_
 refine WpC.loopK [2,24,25] [7,26] (L.length) (():Unit) (λk _=>[(7,.sl 1 ((L.take k).filterMap (hg ns)).length),(26,.d (.int .i64 k))]) (λk _=>[.cells 41 [.d (aL R),.d (aM X)],.arr 3 1 (((L.take k).filterMap (hg ns)).map dI)]) (λk _=>True) (by simp -implicitDefEqProofs[H]<;>rfl) (Gh.cut' [7,26,2,24,25] 2 (by simp -implicitDefEqProofs[H]) (by simp -implicitDefEqProofs[H]) rfl (by simp) (by simp) (by simp)) (by simp) ?_
 rintro k ⟨⟩ hk hi;simp only[List.cons_append,List.nil_append];refine zR ?_;refine WpC.seq (zL (k<L.length) (λhlt=>?_) (λhge=>?_))
 ·refine WpC.skip ?_;have hkl:k<L.length:=hlt;obtain⟨x,hx⟩:∃x,L[k]=x:=⟨_,rfl⟩
  have hwk:IntKind.i64.wrap ((k:Int)+1)=k+1:=am (by omega) (by omega)
  have hfm:(L.take (k+1)).filterMap (hg ns)=(L.take k).filterMap (hg ns)++(hg ns x).toList:=by
   rw[List.take_add_one,List.getElem?_eq_getElem hkl,hx,List.filterMap_append];simp only[Option.toList_some];cases h:hg ns x<;>simp[h]
  have hka:=kp x.name ns 0;have hlk:=ta ns x.name;simp only[Nat.add_zero,Option.map_id'] at hka;obtain⟨o,ho⟩:∃o,eE ns x.name=o:=⟨_,rfl⟩
  rw[ho] at hka hlk;obtain⟨jj,hjj⟩:∃j,o.getD 0=j:=⟨_,rfl⟩
  obtain⟨bo,hbo⟩:∃j,o.isSome=j:=⟨_,rfl⟩
  rw[hjj,hbo] at hlk;simp only[lkD] at hlk;have hgx:hg ns x=if (bo&&x.op==[110,97,109,101])=true then some (jj:Int) else none:=by
   rw[hg,ho,<-hjj,<-hbo];cases o<;>simp
  have hfl:((L.take k).filterMap (hg ns)).length<=8589934591:=by
   have:=List.length_filterMap_le (hg ns) (L.take k);rw[List.length_take] at this;omega
  obtain⟨acc,hacc⟩:∃a,(L.take k).filterMap (hg ns)=a:=⟨_,rfl⟩
  obtain⟨acc2,hacc2⟩:∃a,(L.take (k+1)).filterMap (hg ns)=a:=⟨_,rfl⟩
  rw[hacc] at hfm hfl ⊢;rw[hacc2] at hfm ⊢;replace H:=And.intro hlt (And.intro hkl (And.intro hx (And.intro hwk (And.intro hka (And.intro hlk (And.intro hfl H))))));refine WpC.seq ?_;refine WpC.block ?_;iterate 2 refine zR ?_
  refine WpC.seq ?_;refine WpC.val 42 (.d (.bool ((bo&&x.op==[110,97,109,101])))) ?_ ?_
  ·refine WpC.region ?_;refine zO 2 ?_;refine zS 38 (λg38=>?_) (λg38=>?_)
   ·have g38':=zN g38;replace H:=And.intro g38 H;refine zO 4 ?_;refine WpO.nil ?_;refine⟨rfl,Gh.only 42 7 ?_ (by first|rfl|simp -implicitDefEqProofs[H]) (by rfl)⟩
    simp -implicitDefEqProofs[H,g38']
   have g38':=zN g38;replace H:=And.intro g38 H;refine zO 4 ?_;refine WpO.nil ?_;refine⟨rfl,Gh.only 42 7 ?_ (by first|rfl|simp -implicitDefEqProofs[H]) (by rfl)⟩
   simp -implicitDefEqProofs[H,g38']
  refine zC (λc42=>?_) (λc42=>?_)
  ·have c42':=zN c42;have hfin:acc2=acc++[(jj:Int)]:=by rw[hfm,hgx,if_pos c42];rfl
   replace H:=And.intro c42 H;iterate 2 refine zr ?_
   exact⟨hlt,(),trivial,Gh.pick [7,26,2,24,25] [0,4] (by simp -implicitDefEqProofs[H,c42',hfin];rfl) (by simp -implicitDefEqProofs[H,c42',hfin]) (by simp) (by simp) (by simp;rfl) (by simp -implicitDefEqProofs[H,c42',hfin]) (by simp)⟩
  have c42':=zN c42;have hfin:acc2=acc:=by rw[hfm,hgx,if_neg (by rw[c42];decide)];simp
  replace H:=And.intro c42 H;refine WpC.skip ?_;refine zr ?_;exact⟨hlt,(),trivial,Gh.cut' [7,26,2,24,25] 2 (by simp -implicitDefEqProofs[H,c42',hfin]) (by simp -implicitDefEqProofs[H,c42',hfin]) rfl (by simp) (by simp) (by simp)⟩
 refine WpC.exit ?_;have hkn:k=L.length:=by omega
 subst hkn;simp only[List.take_length];refine zR ?_;refine WpC.ret ?_;try simp only[aa,aj]
 refine zE ?_;simp -implicitDefEqProofs[H]
def qd (R:List Ru) (i:Nat):Bool:=!(eE ((R.take i).map Ru.name) (R.getD i default).name).isSome&&!eN.any λb=>b.name==(R.getD i default).name
def fv (R:List Ru):Option Nat:=(List.range R.length).find? λi=>!qd R i
theorem nP {R:List Ru} {k:Nat} (hk:k<R.length) (h:∀j,j<k->qd R j=true) (hb:qd R k=false):fv R=some k:=by
 rw[fv,List.find?_range_eq_some];refine⟨by simp[hb],List.mem_range.2 hk,λj hj=>by simp[h j hj]⟩
theorem rO {R:List Ru} (h:∀j,j<R.length->qd R j=true):fv R=none:=by
 rw[fv,List.find?_eq_none];exact λj hj=>by simp[h j (List.mem_range.1 hj)]
def nmD (R:List Ru) (k:Nat):List D:=((R.take k).map Ru.name).map D.str
def n9 (R:List Ru):FV:=match fv R with|none=> .tup [.d (mpD (R.map Ru.name)),.d (dI (-1))]|some i=> .tup [.d .nilm,.d (dI i)]
set_option maxHeartbeats 4000000 in
theorem qg (R:List Ru) (X:List Ex) (hR:R.length<=500000000):ah Tryz.prog 116 [.d (.agg [aL R,aM X])] (n9 R):=by
 refine ah.enter tabOk Tryz.func116 rfl (by show 1<=38;decide) ?_
 simp only[Tryz.f116];have H:=trivial;iterate 2 refine zR ?_
 refine WpC.seq ?_;refine zR ?_;refine WpC.block ?_;refine WpC.loopK [4,11,12] [13] (R.length) (():Unit) (λk _=>[(13,.d (.int .i64 k))]) (λk _=>[.cells 41 [.d (aL R),.d (aM X)],.map (nmD R k) (nc k)]) (λk _=>∀j,j<k->qd R j=true) (by simp -implicitDefEqProofs[H]<;>rfl) (Gh.cut' [13,4,11,12] 2 (by simp) (by simp[nc,nmD]) rfl (by simp) (by simp) (by simp)) (by simp) ?_
 rintro k ⟨⟩ hk hi;simp only[List.cons_append,List.nil_append];refine zR ?_;refine WpC.seq (zL (k<R.length) (λhlt=>?_) (λhge=>?_))
 ·refine WpC.skip ?_;have hkl:k<R.length:=hlt;obtain⟨r,hr⟩:∃r,R[k]=r:=⟨_,rfl⟩
  have hrd:R.getD k default=r:=by rw[List.getD_eq_getElem?_getD,List.getElem?_eq_getElem hkl,hr];rfl
  have hw:IntKind.i64.wrap ((k:Int)+1)=k+1:=am (by omega) (by omega)
  have hst:(R.take (k+1)).map Ru.name=(R.take k).map Ru.name++[r.name]:=by rw[List.take_add_one,List.getElem?_eq_getElem hkl,hr,List.map_append];rfl
  have hid:nc (k+1)=nc k++[dI k]:=by rw[nc,nc,List.range_succ,List.map_append];rfl
  obtain⟨nk,hnk⟩:∃n,(R.take k).map Ru.name=n:=⟨_,rfl⟩
  have hnl:nk.length=k:=by rw[<-hnk,List.length_map,List.length_take];omega
  have hka:=kp r.name nk 0;have hlk:=ta nk r.name;rw[hnl] at hlk;simp only[Nat.add_zero,Option.map_id'] at hka;have hno:qd R k=(!(eE nk r.name).isSome&&!eN.any λb=>b.name==r.name):=by rw[qd,hrd,hnk]
  obtain⟨o,ho⟩:∃o,eE nk r.name=o:=⟨_,rfl⟩
  rw[ho] at hka hlk hno;obtain⟨jj,hjj⟩:∃j,o.getD 0=j:=⟨_,rfl⟩
  obtain⟨bo,hbo⟩:∃j,o.isSome=j:=⟨_,rfl⟩
  obtain⟨bi,hbi⟩:∃j,(eN.any λb=>b.name==r.name)=j:=⟨_,rfl⟩
  have hcf:=qN eN r.cs _ yh (λb=>b.name==r.name) (λb _=>uF b r) (by decide)
  rw[hjj,hbo] at hlk;rw[hbo,hbi] at hno;rw[hbi] at hcf;have hlk2:=hlk;simp only[lkD] at hlk2;have hnD:nmD R k=nk.map D.str:=by rw[nmD,hnk]
  have hst2:nmD R (k+1)=nmD R k++[.str r.name]:=by rw[nmD,nmD,hst,List.map_append];rfl
  rw[<-hnD] at hka;replace H:=And.intro hlt (And.intro hkl (And.intro hr (And.intro hw (And.intro hka (And.intro hlk2 H)))));refine WpC.seq ?_;refine WpC.block ?_;iterate 2 refine zR ?_
  refine WpC.seq ?_;refine WpC.seq ?_;refine WpC.region ?_;refine zO 2 ?_;refine zS 26 (λg26=>?_) (λg26=>?_)
  ·have g26':=zN g26;replace H:=And.intro g26 H;refine zO 4 ?_;refine WpO.nil ?_;refine zT ?_;refine zR ?_;refine WpC.ret ?_;try simp only[aa,aj]
   refine zE ?_;have hb:=nP hkl hi (by rw[hno,g26];rfl)
   simp[n9,hb]
  have g26':=zN g26;replace H:=And.intro g26 H;refine zP [] ln (kq) ?_;refine zO 1 ?_;refine zB q8 (hcf) ?_;refine zO 1 ?_;refine WpO.nil ?_;refine zC (λc30=>?_) (λc30=>?_)
  ·have c30':=zN c30;replace H:=And.intro c30 H;refine zR ?_;refine WpC.ret ?_;try simp only[aa,aj]
   refine zE ?_;have hb:=nP hkl hi (by rw[hno,c30];simp)
   simp[n9,hb]
  have c30':=zN c30;have hokk:qd R k=true:=by
   rw[hno,g26,c30];rfl
  have hon:o=none:=by
   cases o with
   |none=>rfl
   |some j=>rw[<-hbo] at g26;simp at g26
  subst hon;replace H:=And.intro c30 H;refine WpC.skip ?_;iterate 2 refine zr ?_
  exact⟨hlt,(),by
   intro j hj;rcases Nat.lt_succ_iff_lt_or_eq.1 hj with q|q
   ·exact hi j q
   ·subst q;exact hokk,Gh.cut' [13,4,11,12] 2 (by simp -implicitDefEqProofs[H,g26',c30',hst2,hid]) (by simp -implicitDefEqProofs[H,g26',c30',hst2,hid]) rfl (by simp) (by simp) (by simp)⟩
 refine WpC.exit ?_;have hkn:k=R.length:=by omega
 subst hkn;have hgood:=rO hi;have hall:nmD R R.length=(R.map Ru.name).map D.str:=by rw[nmD,List.take_length]
 refine zR ?_;refine WpC.ret ?_;try simp only[aa,aj]
 refine zE ?_;simp[n9,hgood,hall]
end Go.Proofs.YtlhmejigmokbhaaGreatDoor.Pay
