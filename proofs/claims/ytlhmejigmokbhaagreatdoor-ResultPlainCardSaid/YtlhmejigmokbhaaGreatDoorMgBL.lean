/- The texts ShF, ShG, OrB, OrC, one behind the other. No statement of the seed is proved here. -/
import Derived.Test.YtlhmejigmokbhaaGreatDoorMgZ
import Derived.Test.YtlhmejigmokbhaaGreatDoorMgBE
import Derived.Test.YtlhmejigmokbhaaGreatDoorMgBH
import Derived.Test.YtlhmejigmokbhaaGreatDoorMgBI
import Derived.Test.YtlhmejigmokbhaaGreatDoorMgBJ
import Derived.Test.YtlhmejigmokbhaaGreatDoorMgBK
namespace Go.Proofs.YtlhmejigmokbhaaGreatDoor.Pay
open Go Go.RowKit
set_option linter.unusedVariables false
set_option linter.unusedSimpArgs false
theorem DU {P:Program} (hs:P.underlying 9=some .string) (n:Nat) (w:World) (a b:List UInt8):(Op.equalIn (n+1) 9 (.string ⟨a.toArray⟩) (.string ⟨b.toArray⟩)).run P w= .ok (decide (a=b)) w:=by
 unfold Op.equalIn;have e:((⟨a.toArray⟩:ByteArray)==⟨b.toArray⟩)=decide (a=b):=by
  rw[Bool.eq_iff_iff,decide_eq_true_eq];constructor
  ·intro h;have h2:(a.toArray==b.toArray)=true:=h;simpa using congrArg Array.toList (beq_iff_eq.1 h2)
  ·rintro rfl;show(a.toArray==a.toArray)=true
   exact beq_self_eq_true _
 simp[run_underlying hs,e]
theorem Jj (p q:Ru):EqT Tryz.prog 116 p.cs q.cs (decide (p=q)):=by
 refine⟨by kernel_rfl,λw I vs us h1 h2=>?_⟩
 simp only[au,ar,dI,Ru.cs] at h1 h2;obtain⟨_,_,rfl,rfl,_,_,rfl,rfl,_,_,rfl,rfl,rfl⟩:=h1;obtain⟨_,_,rfl,rfl,_,_,rfl,rfl,_,_,rfl,rfl,rfl⟩:=h2;have hu:=Tryz.underlying116;have hi:=Tryz.underlying3;have hb:=Tryz.underlying9;have ha:∀w,(isAgg 3).run Tryz.prog w= .ok false w:=λw=>by simp[isAgg,run_underlying hi]
 have hab:∀w,(isAgg 9).run Tryz.prog w= .ok false w:=λw=>by simp[isAgg,run_underlying hb]
 unfold Op.equal;rw[show Op.maxDepth=9999+1 from rfl,run_equalIn_struct w _ _ _ _ (by simp only[Program.fieldsOf,hu]) (by kernel_rfl)]
 have he:∀(w:World) (a b:Int),(Op.equalIn 9999 3 (.int .i64 a) (.int .i64 b)).run Tryz.prog w= .ok (decide (a=b)) w:=λw a b=>by
  rw[show(9999:Nat)=9998+1 from rfl]
  unfold Op.equalIn;simp[run_underlying hi]
 have hes:∀(w:World) (a b:List UInt8),(Op.equalIn 9999 9 (.string ⟨a.toArray⟩) (.string ⟨b.toArray⟩)).run Tryz.prog w= .ok (decide (a=b)) w:=λw a b=>DU hb 9998 w a b
 obtain⟨a1,a2,a3⟩:=p;obtain⟨b1,b2,b3⟩:=q;by_cases h1:a1=b1<;>by_cases h2:a2=b2<;>by_cases h3:a3=b3<;>simp[Program.fieldsOf,hu,Op.eqFields,part,ha,he,hab,hes,h1,h2,h3]
theorem Jk (p q:Ex):EqT Tryz.prog 136 p.cs q.cs (decide (p=q)):=by
 refine⟨by kernel_rfl,λw I vs us h1 h2=>?_⟩
 simp only[au,ar,dI,Ex.cs] at h1 h2;obtain⟨_,_,rfl,rfl,_,_,rfl,rfl,_,_,rfl,rfl,_,_,rfl,rfl,_,_,rfl,rfl,_,_,rfl,rfl,rfl⟩:=h1;obtain⟨_,_,rfl,rfl,_,_,rfl,rfl,_,_,rfl,rfl,_,_,rfl,rfl,_,_,rfl,rfl,_,_,rfl,rfl,rfl⟩:=h2;have hu:=Tryz.underlying136;have hi:=Tryz.underlying3;have hb:=Tryz.underlying9;have ha:∀w,(isAgg 3).run Tryz.prog w= .ok false w:=λw=>by simp[isAgg,run_underlying hi]
 have hab:∀w,(isAgg 9).run Tryz.prog w= .ok false w:=λw=>by simp[isAgg,run_underlying hb]
 unfold Op.equal;rw[show Op.maxDepth=9999+1 from rfl,run_equalIn_struct w _ _ _ _ (by simp only[Program.fieldsOf,hu]) (by kernel_rfl)]
 have he:∀(w:World) (a b:Int),(Op.equalIn 9999 3 (.int .i64 a) (.int .i64 b)).run Tryz.prog w= .ok (decide (a=b)) w:=λw a b=>by
  rw[show(9999:Nat)=9998+1 from rfl]
  unfold Op.equalIn;simp[run_underlying hi]
 have hes:∀(w:World) (a b:List UInt8),(Op.equalIn 9999 9 (.string ⟨a.toArray⟩) (.string ⟨b.toArray⟩)).run Tryz.prog w= .ok (decide (a=b)) w:=λw a b=>DU hb 9998 w a b
 obtain⟨a1,a2,a3,a4,a5,a6⟩:=p;obtain⟨b1,b2,b3,b4,b5,b6⟩:=q;by_cases h1:a1=b1
 ·by_cases h2:a2=b2
  ·by_cases h3:a3=b3<;>by_cases h4:a4=b4<;>by_cases h5:a5=b5<;>by_cases h6:a6=b6<;>simp[Program.fieldsOf,hu,Op.eqFields,part,ha,he,hab,hes,h1,h2,h3,h4,h5,h6]
  ·simp[Program.fieldsOf,hu,Op.eqFields,part,ha,he,hab,hes,h1,h2]
 ·simp[Program.fieldsOf,hu,Op.eqFields,part,ha,he,hab,hes,h1]
def eW (R:List Ru) (X:List Ex) (R2:List Ru) (X2:List Ex):Bool:=decide (R=R2)&&decide (X=X2)
theorem pR {R R2:List Ru} {X X2:List Ex} (h:R≠R2):eW R X R2 X2=false:=by simp[eW,h]
theorem pS {R R2:List Ru} {X X2:List Ex} (h:X≠X2):eW R X R2 X2=false:=by simp[eW,h]
theorem AR (R:List Ru) (X:List Ex) (R2:List Ru) (X2:List Ex) (h1:R.length<=500000000) (h2:X.length<=500000000) (h3:R2.length<=500000000) (h4:X2.length<=500000000):
 ah Tryz.prog 160 [.d (.agg [aL R,aM X]),.d (.agg [aL R2,aM X2])] (.d (.bool (eW R X R2 X2))):=by
 refine ah.enter tabOk Tryz.func160 rfl (by show 2<=59;decide) ?_
 simp only[Tryz.f160];have H:=trivial;refine zR ?_;refine WpC.seq ?_;refine WpC.seq ?_;refine WpC.val 22 (.d (.bool ((!decide ((R.length:Int)=R2.length))||!decide ((X.length:Int)=X2.length)))) ?_ ?_
 ·refine WpC.region ?_;refine zO 8 ?_;refine zS 14 (λg14=>?_) (λg14=>?_)
  ·have g14':=zN g14;replace H:=And.intro g14 H;refine zO 8 ?_;refine WpO.nil ?_;refine⟨rfl,Gh.only 22 17 ?_ (by first|rfl|simp -implicitDefEqProofs[H]) (by rfl)⟩
   simp -implicitDefEqProofs[H,g14']
  have g14':=zN g14;replace H:=And.intro g14 H;refine zO 8 ?_;refine WpO.nil ?_;refine⟨rfl,Gh.only 22 17 ?_ (by first|rfl|simp -implicitDefEqProofs[H]) (by rfl)⟩
  simp -implicitDefEqProofs[H,g14']
 refine zC (λc22=>?_) (λc22=>?_)
 ·have c22':=zN c22;replace H:=And.intro c22 H;refine zR ?_;refine WpC.ret ?_;try simp only[aa,aj]
  refine zE ?_;have:eW R X R2 X2=false:=by
   simp only[Bool.or_eq_true,Bool.not_eq_true',decide_eq_false_iff_not] at c22;rcases c22 with h|h
   ·exact pR λe=>h (by rw[e])
   ·exact pS λe=>h (by rw[e])
  simp[this]
 have c22':=zN c22;have c22b:=c22;simp only[Bool.or_eq_false_iff,Bool.not_eq_false',decide_eq_true_eq] at c22b;have hl1:R.length=R2.length:=by omega
 have hl2:X.length=X2.length:=by omega
 replace H:=And.intro c22 H;refine WpC.skip ?_;refine WpC.seq ?_;refine zR ?_;refine WpC.block ?_;refine WpC.loopK [2,3,25] [26] (R.length) (():Unit) (λk _=>[(26,.d (.int .i64 k))]) (λk _=>[.cells 41 [.d (aL R),.d (aM X)],.cells 41 [.d (aL R2),.d (aM X2)]]) (λk _=>R.take k=R2.take k) (by simp -implicitDefEqProofs[H]<;>rfl) (Gh.cut' [26,2,3,25] 2 (by simp -implicitDefEqProofs[H]) (by simp -implicitDefEqProofs[H]) rfl (by simp) (by simp) (by simp)) (rfl) ?_
 rintro k ⟨⟩ hk hi;simp only[List.cons_append,List.nil_append];refine zR ?_;refine WpC.seq (zL (k<R.length) (λhlt=>?_) (λhge=>?_))
 ·refine WpC.skip ?_;have hkl:k<R.length:=by omega
  have hkl2:k<R2.length:=by omega
  obtain⟨p,hp⟩:∃p,R[k]=p:=⟨_,rfl⟩
  obtain⟨q,hq⟩:∃q,R2[k]=q:=⟨_,rfl⟩
  have hw:IntKind.i64.wrap ((k:Int)+1)=k+1:=am (by omega) (by omega)
  replace H:=And.intro hlt (And.intro hkl (And.intro hkl2 (And.intro hp (And.intro hq (And.intro hw H)))));refine WpC.seq ?_;refine WpC.block ?_;refine zR ?_;refine WpC.seq ?_;refine WpC.drawn tabOk (by kernel_rfl) 0 (by simp) ?_
  iterate 3 refine yO 3 ?_
  refine yO 1 ?_;refine DrO.eqS true (by simp) rfl (by simp -implicitDefEqProofs[H]<;>rfl) (by simp -implicitDefEqProofs[H]<;>rfl) (Jj p q) (by simp -implicitDefEqProofs[H]<;>rfl) ?_
  refine DrO.nil ⟨by kernel_rfl,?_⟩
  refine zC (λc39=>?_) (λc39=>?_)
  ·have c39':=zN c39;replace H:=And.intro c39 H;refine zR ?_;refine WpC.ret ?_;try simp only[aa,aj]
   refine zE ?_;have:eW R X R2 X2=false:=by
    have hpq:p≠q:=by simpa using c39
    refine pR λe=>hpq ?_
    subst e;rw[<-hp,<-hq]
   simp[this]
  have c39':=zN c39;replace H:=And.intro c39 H;refine WpC.skip ?_;refine zr ?_;exact⟨hlt,(),by
   rw[List.take_add_one,List.take_add_one,List.getElem?_eq_getElem hkl,List.getElem?_eq_getElem hkl2,hi,hp,hq];have:p=q:=by simpa using c39
   rw[this],Gh.cut' [26,2,3,25] 2 (by simp -implicitDefEqProofs[H,c22',c39']) (by simp -implicitDefEqProofs[H,c22',c39']) rfl (by simp) (by simp) (by simp)⟩
 refine WpC.exit ?_;have hkn:k=R.length:=by omega
 subst hkn;have hRR:R=R2:=by rw[List.take_length,hl1,List.take_length] at hi;exact hi
 refine WpC.seq ?_;refine zR ?_;refine WpC.block ?_;refine WpC.loopK [2,3,43] [44] (X.length) (():Unit) (λk _=>[(44,.d (.int .i64 k))]) (λk _=>[.cells 41 [.d (aL R),.d (aM X)],.cells 41 [.d (aL R2),.d (aM X2)]]) (λk _=>X.take k=X2.take k) (by simp -implicitDefEqProofs[H]<;>rfl) (Gh.cut' [44,2,3,43] 2 (by simp -implicitDefEqProofs[H]) (by simp -implicitDefEqProofs[H]) rfl (by simp) (by simp) (by simp)) (rfl) ?_
 rintro k ⟨⟩ hk hi;simp only[List.cons_append,List.nil_append];refine zR ?_;refine WpC.seq (zL (k<X.length) (λhlt=>?_) (λhge=>?_))
 ·refine WpC.skip ?_;have hkl:k<X.length:=by omega
  have hkl2:k<X2.length:=by omega
  obtain⟨p,hp⟩:∃p,X[k]=p:=⟨_,rfl⟩
  obtain⟨q,hq⟩:∃q,X2[k]=q:=⟨_,rfl⟩
  have hw:IntKind.i64.wrap ((k:Int)+1)=k+1:=am (by omega) (by omega)
  replace H:=And.intro hlt (And.intro hkl (And.intro hkl2 (And.intro hp (And.intro hq (And.intro hw H)))));refine WpC.seq ?_;refine WpC.block ?_;refine zR ?_;refine WpC.seq ?_;refine WpC.drawn tabOk (by kernel_rfl) 0 (by simp) ?_
  iterate 3 refine yO 3 ?_
  refine yO 1 ?_;refine DrO.eqS true (by simp) rfl (by simp -implicitDefEqProofs[H]<;>rfl) (by simp -implicitDefEqProofs[H]<;>rfl) (Jk p q) (by simp -implicitDefEqProofs[H]<;>rfl) ?_
  refine DrO.nil ⟨by kernel_rfl,?_⟩
  refine zC (λc57=>?_) (λc57=>?_)
  ·have c57':=zN c57;replace H:=And.intro c57 H;refine zR ?_;refine WpC.ret ?_;try simp only[aa,aj]
   refine zE ?_;have:eW R X R2 X2=false:=by
    have hpq:p≠q:=by simpa using c57
    refine pS λe=>hpq ?_
    subst e;rw[<-hp,<-hq]
   simp[this]
  have c57':=zN c57;replace H:=And.intro c57 H;refine WpC.skip ?_;refine zr ?_;exact⟨hlt,(),by
   rw[List.take_add_one,List.take_add_one,List.getElem?_eq_getElem hkl,List.getElem?_eq_getElem hkl2,hi,hp,hq];have:p=q:=by simpa using c57
   rw[this],Gh.cut' [44,2,3,43] 2 (by simp -implicitDefEqProofs[H,c22',c57']) (by simp -implicitDefEqProofs[H,c22',c57']) rfl (by simp) (by simp) (by simp)⟩
 refine WpC.exit ?_;have hkn:k=X.length:=by omega
 subst hkn;have hXX:X=X2:=by rw[List.take_length,hl2,List.take_length] at hi;exact hi
 have hfin:eW R X R2 X2=true:=by simp[eW,hRR,hXX]
 refine zR ?_;refine WpC.ret ?_;try simp only[aa,aj]
 refine zE ?_;simp[hfin]
theorem nv {R:List Ru} {X:List Ex} (hX:X.length<=10000) (hsd:dm R X=true) (hv:∀x∈X,inE x):(cA R X).length<=499999999:=by
 obtain⟨hs,hrr,hR60⟩:=gD hsd;have h1:=nu (R:=R) (X:=X) (B:=64*((X.length+1)*9+2)) λr hr=>(nC hs hv (hrr r hr).1 (hrr r hr).2.1 (hrr r hr).2.2).1
 have h2:R.length*(64*((X.length+1)*9+2))<=60*(64*((X.length+1)*9+2)):=Nat.mul_le_mul_right _ hR60;omega
def iJ (R:List Ru) (X:List Ex):Bool:=dm R X&&(decide ((bR (cA R X)).2.2.2=0)&&eW R X (bR (cA R X)).1 (bR (cA R X)).2.1)
theorem pI (R:List Ru) (X:List Ex) (hR:R.length<=500000000) (hX:X.length<=10000) (hv:∀x∈X,inE x):
 ah Tryz.prog 115 [.d (.agg [aL R,aM X])] (.tup [.d (.str (if iJ R X=true then cA R X else [])),.d (dI (if iJ R X=true then 0 else 1))]):=by
 have h1:=vX R X hR (by omega)
 by_cases hsd:dm R X=true
 ·have h2:=Au R X hX hsd hv;have h3:=gM (cA R X) (nv hX hsd hv);have hl:=nL (cA R X);have hta:=nv hX hsd hv;obtain⟨t,ht⟩:∃t,cA R X=t:=⟨_,rfl⟩
  obtain⟨⟨R2,X2,pl,er⟩,hp⟩:∃p,bR t=p:=⟨_,rfl⟩
  have htx:iJ R X=(decide (er=0)&&eW R X R2 X2):=by rw[iJ,hsd,ht,hp,Bool.true_and]
  rw[ht] at h2 h3 hl hta;rw[hp] at h3 hl;simp only at hl;have h4:=AR R X R2 X2 hR (by omega) (by omega) (by omega)
  rw[htx,ht];rw[hsd] at h1;simp only[jF] at h3;obtain⟨sb,hsb⟩:∃b,eW R X R2 X2=b:=⟨_,rfl⟩
  rw[hsb] at h4 ⊢;refine ah.enter tabOk Tryz.func115 rfl (by show 1<=28;decide) ?_
  simp only[Tryz.f115];have H:=trivial;refine zR ?_;refine WpC.seq ?_;refine WpC.seq ?_;refine WpC.region ?_;refine zO 1 ?_;refine zG qW (h1) ?_;refine zO 1 ?_;refine WpO.nil ?_;refine zF ?_;refine WpC.skip ?_;refine WpC.seq ?_;refine WpC.region ?_;refine zO 1 ?_;refine zG yj (h2) ?_;refine zO 1 ?_;refine WpO.nil ?_;refine WpC.seq ?_;refine WpC.region ?_;refine zO 1 ?_;refine zG iz (h3) ?_;refine zO 8 ?_;refine WpO.nil ?_;refine WpC.seq ?_;refine WpC.seq ?_;refine WpC.val 26 (.d (.bool ((!(decide (er=0)&&sb))))) ?_ ?_
  ·refine WpC.region ?_;refine zO 3 ?_;refine zS 21 (λg21=>?_) (λg21=>?_)
   ·have g21':=zN g21;replace H:=And.intro g21 H;refine zO 5 ?_;refine WpO.nil ?_;refine⟨rfl,Gh.only 26 9 ?_ (by first|rfl|simp -implicitDefEqProofs[H]) (by rfl)⟩
    simp -implicitDefEqProofs[H,g21']
   have g21':=zN g21;replace H:=And.intro g21 H;refine zO 2 ?_;refine zG yi (h4) ?_;refine zO 2 ?_;refine WpO.nil ?_;refine⟨rfl,Gh.only 26 9 ?_ (by first|rfl|simp -implicitDefEqProofs[H]) (by rfl)⟩
   simp -implicitDefEqProofs[H,g21']
  refine zC (λc26=>?_) (λc26=>?_)
  ·have c26':=zN c26;replace H:=And.intro c26 H;refine zR ?_;refine WpC.ret ?_;try simp only[aa,aj]
   refine zE ?_;have hc:(decide (er=0)&&sb)=false:=by by_cases he:er=0<;>cases sb<;>simp_all
   simp[hc]
  have c26':=zN c26;replace H:=And.intro c26 H;refine WpC.skip ?_;refine zR ?_;refine WpC.ret ?_;try simp only[aa,aj]
  refine zE ?_;have hc:(decide (er=0)&&sb)=true:=by by_cases he:er=0<;>cases sb<;>simp_all
  simp[hc]
 ·have hf:dm R X=false:=by simpa using hsd
  have htx:iJ R X=false:=by rw[iJ,hf,Bool.false_and]
  rw[htx];rw[hf] at h1;refine ah.enter tabOk Tryz.func115 rfl (by show 1<=28;decide) ?_
  simp only[Tryz.f115];have H:=trivial;refine zR ?_;refine WpC.seq ?_;refine WpC.seq ?_;refine WpC.region ?_;refine zO 1 ?_;refine zG qW (h1) ?_;refine zO 1 ?_;refine WpO.nil ?_;refine zT ?_;refine zR ?_;refine WpC.ret ?_;try simp only[aa,aj]
  refine zE ?_;simp -implicitDefEqProofs[H]
theorem iZ {R:List Ru} {X:List Ex} (h:iJ R X=true):(∀r∈R,(0<=r.root/\r.root<X.length)/\r.kind.length<=12/\r.name.length<=12)/\R.length<=60/\gG X/\R.Pairwise (λa b=>a.root<=b.root):=by
 simp only[iJ,Bool.and_eq_true,eW,decide_eq_true_eq] at h;obtain⟨hs,he,e1,e2⟩:=h;obtain⟨a,b,c⟩:=gD hs;have:=sV (cA R X);rw[<-e1,<-e2] at this;exact⟨b,c,a,this.1⟩
def okN (R:List Ru) (X:List Ex) (ns:List (List UInt8)) (done:List Bool) (j:Nat):Bool:=!done.getD j false&&!(iF R X ns j).any λn=>!done.getD n.toNat false
def eZ (R:List Ru) (X:List Ex) (ns:List (List UInt8)) (done:List Bool):Option Nat:=(List.range R.length).find? (okN R X ns done)
def gH (R:List Ru) (X:List Ex) (ns:List (List UInt8)):Nat->List Int->List Bool->Except Int (List Int)
 |0,out,_=> .ok out
 |f+1,out,done=>match eZ R X ns done with|some j=>gH R X ns f (out++[(j:Int)]) (done.set j true)|none=> .error (bZ (λb=>!b) done)
def nz:Except Int (List Int)->List Int×Int×Int
 | .ok l=>(l,0,0)
 | .error a=>([],a,8)
def bV (R:List Ru) (X:List Ex):List Int×Int×Int:=
 if iJ R X=true then(match fv R with
  |some i=>([],i,6)
  |none=>nz (gH R X (R.map Ru.name) R.length [] (List.replicate R.length false)))
 else([],0,1)
theorem BD {R:List Ru} {X:List Ex} {ns:List (List UInt8)} {i:Nat}:∀n∈iF R X ns i,0<=n/\n<ns.length:=by
 intro n hn;rw[iF,List.mem_filterMap] at hn;obtain⟨x,_,hx⟩:=hn;unfold hg at hx;split at hx
 ·cases h:eE ns x.name with
  |none=>rw[h] at hx;cases hx
  |some j=>
   rw[h] at hx;have:=ql h;simp only[Option.map_some,Option.some.injEq] at hx;omega
 ·cases hx
theorem xt {R:List Ru} {X:List Ex} {ns:List (List UInt8)} {i:Nat}:(iF R X ns i).length<=X.length:=by
 have:=List.length_filterMap_le (hg ns) (lX R X i);rw[iF];unfold lX at this ⊢;rw[List.length_drop,List.length_take] at this;omega
theorem tC:∀(l:List Bool) (i:Nat),l[i]?=some false->(l.set i true).count false+1=l.count false
 |[],i,h=>by simp at h
 |b::l,0,h=>by simp at h;subst h;simp
 |b::l,i+1,h=>by
  have:=tC l i (by simpa using h)
  rw[List.set_cons_succ,List.count_cons,List.count_cons];omega
theorem xx {l:List Bool} (h:0<l.count false):∃p:Nat,bZ (λb=>!b) l=p/\p<l.length/\∀j,j<p->l.getD j false=true:=by
 have hm:false∈l:=List.count_pos_iff.1 h;unfold bZ;cases hf:l.findIdx? (λb=>!b) with
 |none=>rw[List.findIdx?_eq_none_iff] at hf;have:=hf false hm;simp at this
 |some p=>
  rw[List.findIdx?_eq_some_iff_getElem] at hf;obtain⟨h1,_,h3⟩:=hf;refine⟨p,rfl,h1,λj hj=>?_⟩
  have:=h3 j hj;rw[List.getD_eq_getElem?_getD,List.getElem?_eq_getElem (by omega)]
  simpa using this
theorem qc {R:List Ru} {X:List Ex} {ns:List (List UInt8)} {done:List Bool} {j:Nat} (h:done.getD j false=true):okN R X ns done j=false:=by rw[okN,h];rfl
theorem uC {R:List Ru} {X:List Ex} {ns:List (List UInt8)} {done:List Bool} {j:Nat} (hj:j<R.length) (h:∀i,i<j->okN R X ns done i=false) (hb:okN R X ns done j=true):eZ R X ns done=some j:=by
 rw[eZ,List.find?_range_eq_some];exact⟨hb,List.mem_range.2 hj,λi hi=>by simp[h i hi]⟩
theorem uD {R:List Ru} {X:List Ex} {ns:List (List UInt8)} {done:List Bool} (h:∀i,i<R.length->okN R X ns done i=false):eZ R X ns done=none:=by
 rw[eZ,List.find?_eq_none];exact λj hj=>by simp[h j (List.mem_range.1 hj)]
theorem k_ {R:List Ru} {X:List Ex} {ns:List (List UInt8)} {done:List Bool} {j:Nat} (h:eZ R X ns done=some j):j<R.length/\okN R X ns done j=true:=by
 rw[eZ,List.find?_range_eq_some] at h;exact⟨List.mem_range.1 h.2.1,h.1⟩
structure So where
 out:List Int
 done:List Bool
set_option maxHeartbeats 8000000 in
theorem vY (R:List Ru) (X:List Ex) (hX:X.length<=10000) (hv:∀x∈X,inE x) (ht:iJ R X=true) (hn:fv R=none):
 ah Tryz.prog 90 [.d (.agg [aL R,aM X])] (.tup [.d (.list 1 ((bV R X).1.map dI)),.d (dI (bV R X).2.1),.d (dI (bV R X).2.2)]):=by
 obtain⟨hrr,hR60,_,hpw⟩:=iZ ht;have h1:=pI R X (by omega) hX hv
 rw[if_pos ht,if_pos ht] at h1;have h2:=qg R X (by omega)
 rw[n9,hn] at h2;simp only at h2;obtain⟨N,hN⟩:∃N,R.length=N:=⟨_,rfl⟩
 have hN8:(N:Int)<=8589934592:=by omega
 obtain⟨ns,hns⟩:∃ns,R.map Ru.name=ns:=⟨_,rfl⟩
 have hnl:ns.length=N:=by rw[<-hns,List.length_map,hN]
 rw[hns] at h2;obtain⟨Z,hZ⟩:∃Z,gH R X ns N [] (List.replicate N false)=Z:=⟨_,rfl⟩
 have hS:bV R X=nz Z:=by rw[bV,if_pos ht,hn,<-hZ,hns,hN]
 obtain⟨S,hSS⟩:∃S,bV R X=S:=⟨_,rfl⟩
 rw[hSS] at hS ⊢;refine ah.enter tabOk Tryz.func90 rfl (by show 1<=75;decide) ?_
 simp only[Tryz.f90];have H:=And.intro hN hN8;refine zR ?_;refine WpC.seq ?_;refine WpC.seq ?_;refine WpC.region ?_;refine zO 1 ?_;refine zG mI (h1) ?_;refine zO 5 ?_;refine WpO.nil ?_;refine zR ?_;refine zF ?_;refine WpC.skip ?_;refine WpC.seq ?_;refine WpC.region ?_;refine zO 1 ?_;refine zG q_ (h2) ?_;refine zO 5 ?_;refine WpO.nil ?_;refine WpC.seq ?_;refine zR ?_;refine zF ?_;refine WpC.skip ?_;iterate 2 refine zR ?_
 refine WpC.seq ?_;refine zR ?_;refine WpC.block ?_;refine WpC.gh (Gh.nilArr 3 1 (t:=9) (by simp) (by simp)) ?_
 refine WpC.loopK [1,7,10,35] [9,36] (N) (⟨[],List.replicate N false⟩:So) (λk x=>[(9,.sl 3 x.out.length),(36,.d (.int .i64 k))]) (λk x=>[.cells 41 [.d (aL R),.d (aM X)],.arr 4 1 (x.done.map D.bool),.cells 201 [.sl 1 N],.arr 3 1 (x.out.map dI)]) (λk x=>x.done.length=N/\x.out.length=k/\x.done.count false=N-k/\Z=gH R X ns (N-k) x.out x.done) (by simp -implicitDefEqProofs[H]<;>rfl) (Gh.cut' [9,36,1,7,10,35] 4 (by simp -implicitDefEqProofs[H]) (by simp -implicitDefEqProofs[H]) rfl (by simp) (by simp) (by simp)) (⟨by simp,by simp,by simp,hZ.symm⟩) ?_
 rintro k x hk hi;simp only[List.cons_append,List.nil_append];refine zR ?_;refine WpC.seq (zL (k<N) (λhlt=>?_) (λhge=>?_))
 ·refine WpC.skip ?_;obtain⟨out,done⟩:=x;obtain⟨i1,i2,i3,i4⟩:=hi;simp only at i1 i2 i3 i4 ⊢;obtain⟨p,hp1,hp2,hp3⟩:=xx (l:=done) (by omega)
  have hix:=xp done [] _ yy (λb=>!b) (λb _=>Bm b) (by omega)
  rw[hp1] at hix;obtain⟨f,hf⟩:∃f,N-k=f+1:=⟨N-k-1,by omega⟩
  rw[hf,gH] at i4;obtain⟨k0,hk0⟩:∃k0:Nat,k0=k:=⟨k,rfl⟩
  subst hk0;have hkN:k0<N:=hlt;have hND:N<=done.length:=by omega
  have htk:List.take N (done.map D.bool)=done.map D.bool:=List.take_of_length_le (by simp;omega)
  have hw:IntKind.i64.wrap ((k0:Int)+1)=k0+1:=am (by omega) (by omega)
  obtain⟨nx,hnx⟩:∃n:Nat,(eZ R X ns done).getD N=n:=⟨_,rfl⟩
  have hnN:nx<=N:=by
   rw[<-hnx];cases h:eZ R X ns done with
   |none=>exact Nat.le_refl _
   |some j=>have:=(k_ h).1;simp only[Option.getD_some];omega
  replace H:=And.intro hlt (And.intro hND (And.intro htk (And.intro hw H)));refine WpC.seq ?_;refine WpC.block ?_;refine WpC.seq ?_;refine WpC.region ?_;refine zO 1 ?_;refine zB yz (hix) ?_;refine zO 1 ?_;refine WpO.nil ?_;refine zR ?_;refine WpC.seq ?_;refine WpC.join ⟨[(1,.ref 0 0),(7,.d (mpD ns)),(9,.sl 3 out.length),(10,.ref 2 0),(11,.d (dI nx)),(12,.d (dI p)),(35,.d (dI N)),(36,.d (dI k0))],[.cells 41 [.d (aL R),.d (aM X)],.arr 4 1 (done.map D.bool),.cells 201 [.sl 1 N],.arr 3 1 (out.map dI)],75,0⟩ ?_ ?_
  ·refine WpC.block ?_;refine WpC.loopM [1,7,9,10,12,35,36] [11] (λx=>N-x) (p:Nat) (λx=>[(11,.d (dI x))]) (λx=>[.cells 41 [.d (aL R),.d (aM X)],.arr 4 1 (done.map D.bool),.cells 201 [.sl 1 N],.arr 3 1 (out.map dI)]) (λx=>x<=N/\∀j,j<x->okN R X ns done j=false) (by simp -implicitDefEqProofs[H]<;>rfl) (Gh.cut' [11,1,7,9,10,12,35,36] 4 (by simp -implicitDefEqProofs[H]) (by simp -implicitDefEqProofs[H]) rfl (by simp) (by simp) (by simp)) (⟨by omega,λj hj=>qc (hp3 j hj)⟩) ?_
   rintro x hi;simp only[List.cons_append,List.nil_append];obtain⟨j1,j2⟩:=hi;have hxA:x<N->okN R X ns done x=true->x=nx:=λh1 h2=>by rw[<-hnx,uC (by omega) j2 h2];rfl
   have hxB:x=N->x=nx:=λh=>by rw[<-hnx,uD (λi hi=>j2 i (by omega))];exact h
   have hxs:∀b,okN R X ns done x=b->b=false->∀j,j<x+1->okN R X ns done j=false:=λb hb hf j hj=>by
    rcases Nat.lt_succ_iff_lt_or_eq.1 hj with q|q
    ·exact j2 j q
    ·subst q;rw[hb,hf]
   refine WpC.seq ?_;refine WpC.seq ?_;refine WpC.region ?_;refine zO 5 ?_;refine zS 45 (λg45=>?_) (λg45=>?_)
   ·have g45':=zN g45;have hxN:x<N:=by simpa using g45
    have hxd:x<done.length:=by omega
    obtain⟨b,hb⟩:∃b,done[x]=b:=⟨_,rfl⟩
    have hgx:done.getD x false=b:=by rw[List.getD_eq_getElem?_getD,List.getElem?_eq_getElem hxd,hb];rfl
    have hwx:IntKind.i64.wrap ((x:Int)+1)=x+1:=am (by omega) (by omega)
    have hhg:=xr R X ns x (by omega) (λr hr=>(hrr r hr).1) hpw (by omega) (by omega) (by omega)
    have hhl:=xt (R:=R) (X:=X) (ns:=ns) (i:=x);have hcf:=qM (iF R X ns x) [.list 1 (done.map D.bool)] _ yv (λn=>!done.getD n.toNat false) (λn hn=>by
     have:=BD n hn;exact xR done n (by omega) (by omega)) (by omega)
    obtain⟨an,han⟩:∃b,((iF R X ns x).any λn=>!done.getD n.toNat false)=b:=⟨_,rfl⟩
    rw[han] at hcf;have hok:okN R X ns done x=(!b&&!an):=by rw[okN,hgx,han]
    replace H:=And.intro g45 (And.intro hxN (And.intro hxd (And.intro hb (And.intro hwx H))));refine zO 5 ?_;refine zS 50 (λg50=>?_) (λg50=>?_)
    ·have g50':=zN g50;replace H:=And.intro g50 H;refine zO 8 ?_;refine WpO.nil ?_;refine zT ?_;refine WpC.skip ?_;refine WpC.block ?_;refine zr ?_;exact⟨x+1,⟨by omega,hxs _ rfl (qc (by rw[hgx];simpa using g50))⟩,by omega,Gh.cut' [11,1,7,9,10,12,35,36] 4 (by simp -implicitDefEqProofs[H,g45',g50']) (by simp -implicitDefEqProofs[H,g45',g50']) rfl (by simp) (by simp) (by simp)⟩
    have g50':=zN g50;replace H:=And.intro g50 H;refine zO 3 ?_;refine zG yw (hhg) ?_;refine zO 1 ?_;refine zB lu (hcf) ?_;refine zO 2 ?_;refine WpO.nil ?_;refine zC (λc58=>?_) (λc58=>?_)
    ·have c58':=zN c58;replace H:=And.intro c58 H;refine WpC.skip ?_;refine WpC.block ?_;refine zr ?_;exact⟨x+1,⟨by omega,hxs _ rfl (by rw[hok,c58];simp)⟩,by omega,Gh.cut' [11,1,7,9,10,12,35,36] 4 (by simp -implicitDefEqProofs[H,g45',g50',c58']) (by simp -implicitDefEqProofs[H,g45',g50',c58']) rfl (by simp) (by simp) (by simp)⟩
    have c58':=zN c58;replace H:=And.intro c58 H;refine WpC.exit ?_;have hxn:x=nx:=by
     first
      |exact hxA hxN (by rw[hok,show b=false from by simpa using g50,c58];rfl)
      |exact hxB (by have:=j1;simp at g45;omega)
    subst hxn;exact⟨rfl,Gh.cut' [1,7,9,10,11,12,35,36] 4 (by simp -implicitDefEqProofs[H,g45',g50',c58']) (by simp -implicitDefEqProofs[H,g45',g50',c58']) rfl (by simp) (by simp) (by simp)⟩
   have g45':=zN g45;replace H:=And.intro g45 H;refine zO 12 ?_;refine zO 1 ?_;refine WpO.nil ?_;refine zF ?_;refine WpC.exit ?_;have hxn:x=nx:=by
    first
     |exact hxA hxN (by rw[hok,show b=false from by simpa using g50,c58];rfl)
     |exact hxB (by have:=j1;simp at g45;omega)
   subst hxn;exact⟨rfl,Gh.cut' [1,7,9,10,11,12,35,36] 4 (by simp -implicitDefEqProofs[H,g45']) (by simp -implicitDefEqProofs[H,g45']) rfl (by simp) (by simp) (by simp)⟩
  refine WpC.seq ?_;refine zR ?_;refine zD ((nx:Int)=N) (λd64=>?_) (λd64=>?_)
  ·have hnxE:nx=N:=by omega
   have hno:eZ R X ns done=none:=by
    cases h:eZ R X ns done with
    |none=>rfl
    |some j=>rw[h] at hnx;have:=(k_ h).1;simp only[Option.getD_some] at hnx;omega
   rw[hno] at i4;simp only at i4;rw[i4,hp1,nz] at hS;replace H:=And.intro d64 H;refine zR ?_;refine WpC.ret ?_;try simp only[aa,aj]
   refine zE ?_;rw[hS];simp
  have hnxN:nx<N:=by omega
  have hnd:nx<done.length:=by omega
  have hyes:eZ R X ns done=some nx:=by
   cases h:eZ R X ns done with
   |none=>rw[h] at hnx;simp only[Option.getD_none] at hnx;omega
   |some j=>rw[h] at hnx;simp only[Option.getD_some] at hnx;rw[hnx]
  rw[hyes] at i4;simp only at i4;have hol:out.length<=8589934591:=by omega
  have hdn:done[nx]?=some false:=by
   have:=(k_ hyes).2;rw[okN,Bool.and_eq_true,Bool.not_eq_true',List.getD_eq_getElem?_getD,List.getElem?_eq_getElem hnd,Option.getD_some] at this;rw[List.getElem?_eq_getElem hnd,this.1]
  have hcnt:(done.set nx true).count false=N-(k0+1):=by have:=tC done nx hdn;omega
  have hZ2:Z=gH R X ns (N-(k0+1)) (out++[(nx:Int)]) (done.set nx true):=by rw[i4,show N-(k0+1)=f from by omega]
  replace H:=And.intro d64 (And.intro hnxN (And.intro hnd (And.intro hol H)));refine WpC.skip ?_;refine zR ?_;iterate 2 refine zr ?_
  exact⟨hlt,⟨out++[(nx:Int)],done.set nx true⟩,⟨by simp;omega,by simp;omega,hcnt,hZ2⟩,Gh.pick [9,36,1,7,10,35] [0,1,2,5] (by simp -implicitDefEqProofs[H];rfl) (by simp -implicitDefEqProofs[H]) (by simp) (by simp) (by simp;rfl) (by simp -implicitDefEqProofs[H]) (by simp)⟩
 refine WpC.exit ?_;have hkn:k=N:=by omega
 subst hkn;refine zR ?_;refine WpC.ret ?_;try simp only[aa,aj]
 refine zE ?_;obtain⟨i1,i2,i3,i4⟩:=hi;rw[Nat.sub_self,gH] at i4;rw[i4,nz] at hS;rw[hS];simp
theorem vZ (R:List Ru) (X:List Ex) (hR:R.length<=500000000) (hX:X.length<=10000) (hv:∀x∈X,inE x):
 ah Tryz.prog 90 [.d (.agg [aL R,aM X])] (.tup [.d (.list 1 ((bV R X).1.map dI)),.d (dI (bV R X).2.1),.d (dI (bV R X).2.2)]):=by
 have h1:=pI R X hR hX hv;by_cases ht:iJ R X=true
 ·cases hn:fv R with
  |none=>exact vY R X hX hv ht hn
  |some i=>
   have h2:=qg R X hR;rw[n9,hn] at h2;simp only at h2;have hi:i<R.length:=by
    rw[fv,List.find?_range_eq_some] at hn;exact List.mem_range.1 hn.2.1
   have hS:bV R X=([],(i:Int),6):=by rw[bV,if_pos ht,hn]
   rw[hS];rw[if_pos ht,if_pos ht] at h1;refine ah.enter tabOk Tryz.func90 rfl (by show 1<=75;decide) ?_
   simp only[Tryz.f90];have H:=trivial;refine zR ?_;refine WpC.seq ?_;refine WpC.seq ?_;refine WpC.region ?_;refine zO 1 ?_;refine zG mI (h1) ?_;refine zO 5 ?_;refine WpO.nil ?_;refine zR ?_;refine zF ?_;refine WpC.skip ?_;refine WpC.seq ?_;refine WpC.region ?_;refine zO 1 ?_;refine zG q_ (h2) ?_;refine zO 5 ?_;refine WpO.nil ?_;refine WpC.seq ?_;refine zR ?_;refine zT ?_;refine zR ?_;refine WpC.ret ?_;try simp only[aa,aj]
   refine zE ?_;simp -implicitDefEqProofs[H]
 ·have hS:bV R X=([],0,1):=by rw[bV,if_neg ht]
  rw[hS];rw[if_neg ht,if_neg ht] at h1;refine ah.enter tabOk Tryz.func90 rfl (by show 1<=75;decide) ?_
  simp only[Tryz.f90];have H:=trivial;refine zR ?_;refine WpC.seq ?_;refine WpC.seq ?_;refine WpC.region ?_;refine zO 1 ?_;refine zG mI (h1) ?_;refine zO 5 ?_;refine WpO.nil ?_;refine zR ?_;refine zT ?_;refine zR ?_;refine WpC.ret ?_;try simp only[aa,aj]
  refine zE ?_;simp -implicitDefEqProofs[H]
def Hh (r:Ru):Bool:=r.kind==[108,101,116]
def jH (R:List Ru) (X:List Ex):List Int->List Int->List Bd->Except (Int×Int) (List Int)
 |[],ks,_=> .ok ks
 |i::l,ks,b=>
  if (cJ X (R.getD i.toNat default).root b).2.2=0 then
   (if (!Hh (R.getD i.toNat default)&&!decide ((cJ X (R.getD i.toNat default).root b).1=1))=true then .error (i,7)
    else jH R X l (ks.set i.toNat (cJ X (R.getD i.toNat default).root b).1) (b++[⟨(R.getD i.toNat default).name,(cJ X (R.getD i.toNat default).root b).1⟩]))
  else .error (i,(cJ X (R.getD i.toNat default).root b).2.2)
def r8 (l:List Int):Except (Int×Int) (List Int)->List Int×List Int×Int×Int
 | .ok ks=>(l,ks,0,0)
 | .error e=>([],[],e.1,e.2)
def bL (R:List Ru) (X:List Ex):List Int×List Int×Int×Int:=
 if (bV R X).2.2=0 then r8 (bV R X).1 (jH R X (bV R X).1 (List.replicate R.length 0) eN) else([],[],(bV R X).2.1,(bV R X).2.2)
theorem pQ {R:List Ru} {X:List Ex} {ns:List (List UInt8)}:∀(f:Nat) (out:List Int) (done:List Bool) (l:List Int),gH R X ns f out done= .ok l->(∀i∈out,0<=i/\i<R.length)->(∀i∈l,0<=i/\i<R.length)/\l.length=out.length+f
 |0,out,done,l,h,ho=>by rw[gH] at h;cases h;exact⟨ho,rfl⟩
 |f+1,out,done,l,h,ho=>by
  rw[gH] at h;cases hn:eZ R X ns done with
  |none=>rw[hn] at h;cases h
  |some j=>
   rw[hn] at h;have hj:=(k_ hn).1;have:=pQ f _ _ l h λi hi=>by
    rcases List.mem_append.1 hi with q|q
    ·exact ho i q
    ·rw[List.mem_singleton.1 q];omega
   rw[List.length_append,List.length_singleton] at this;exact⟨this.1,by omega⟩
theorem pP {R:List Ru} {X:List Ex}:(∀i∈(bV R X).1,0<=i/\i<R.length)/\(bV R X).1.length<=R.length/\((bV R X).2.2=0->(bV R X).1.length=R.length):=by
 unfold bV;split
 ·cases hn:fv R with
  |some i=>simp
  |none=>
   simp only;cases hl:gH R X (R.map Ru.name) R.length [] (List.replicate R.length false) with
   |error a=>simp[nz]
   |ok l=>
    have:=pQ _ _ _ _ hl (by simp)
    simp only[nz];exact⟨this.1,by simpa using Nat.le_of_eq this.2,λ_=>by simpa using this.2⟩
 ·simp
structure Cs where
 ks:List Int
 b:List Bd
set_option maxHeartbeats 8000000 in
theorem FF (R:List Ru) (X:List Ex) (hR:R.length<=500000000) (hX:X.length<=10000) (hv:∀x∈X,inE x):
 ah Tryz.prog 65 [.d (.agg [aL R,aM X])] (.tup [.d (.list 1 ((bL R X).1.map dI)),.d (.list 1 ((bL R X).2.1.map dI)),.d (dI (bL R X).2.2.1),.d (dI (bL R X).2.2.2)]):=by
 have h1:=vZ R X hR hX hv;obtain⟨hin,hle,_⟩:=pP (R:=R) (X:=X);unfold bL;obtain⟨⟨l,at0,e⟩,hs⟩:∃s,bV R X=s:=⟨_,rfl⟩
 rw[hs] at h1 hin hle ⊢;simp only at h1 hin hle ⊢;by_cases he:e=0
 ·subst he;rw[if_pos rfl];obtain⟨N,hN⟩:∃N,R.length=N:=⟨_,rfl⟩
  have hN8:(N:Int)<=8589934592:=by omega
  have hin5:=kq;rw[hN];obtain⟨Z,hZ⟩:∃Z,jH R X l (List.replicate N 0) eN=Z:=⟨_,rfl⟩
  rw[hZ];have hZ0:=hZ.symm;obtain⟨S,hS⟩:∃S,r8 l Z=S:=⟨_,rfl⟩
  rw[hS];have hS0:=hS.symm;clear hS hZ;refine ah.enter tabOk Tryz.func65 rfl (by show 1<=80;decide) ?_
  simp only[Tryz.f65];have H:=And.intro hN hN8;refine zR ?_;refine WpC.seq ?_;refine WpC.region ?_;refine zO 1 ?_;refine zG tH (h1) ?_;refine zO 7 ?_;refine WpO.nil ?_;refine WpC.seq ?_;refine zR ?_;refine zF ?_;refine WpC.skip ?_;refine zR ?_;refine WpC.seq ?_;refine WpC.region ?_;refine zP [] ln (hin5) ?_;refine zO 1 ?_;refine WpO.nil ?_;refine WpC.seq ?_;refine zR ?_;refine WpC.block ?_;refine WpC.loopK [1,6,9,32,33] [10,34] (l.length) (⟨List.replicate N 0,eN⟩:Cs) (λk x=>[(10,.sl 2 x.b.length),(34,.d (.int .i64 k))]) (λk x=>[.cells 41 [.d (aL R),.d (aM X)],.arr 3 1 (x.ks.map dI),.arr rI 2 (x.b.map Bd.enc)]) (λk x=>x.ks.length=N/\x.b.length<=5+k/\Z=jH R X (l.drop k) x.ks x.b) (by simp -implicitDefEqProofs[H]<;>rfl) (Gh.cut' [10,34,1,6,9,32,33] 3 (by simp -implicitDefEqProofs[H]) (by simp -implicitDefEqProofs[H]) rfl (by simp) (by simp) (by simp)) (⟨by simp,by simp[eN],hZ0⟩) ?_
  rintro k x hk hi;simp only[List.cons_append,List.nil_append];refine zR ?_;refine WpC.seq (zL (k<l.length) (λhlt=>?_) (λhge=>?_))
  ·refine WpC.skip ?_;obtain⟨ks,b⟩:=x;obtain⟨i1,i2,i3⟩:=hi;simp only at i1 i2 i3 ⊢;have hkl:k<l.length:=hlt;obtain⟨i,hi0⟩:∃i,l[k]=i:=⟨_,rfl⟩
   have hii:=hin i (hi0▸List.getElem_mem hkl);obtain⟨j,rfl⟩:∃j:Nat,i=j:=⟨i.toNat,by omega⟩
   have hjR:j<R.length:=by omega
   have hjN:j<N:=by omega
   have hjK:j<ks.length:=by omega
   have hNK:N<=ks.length:=by omega
   obtain⟨r,hr⟩:∃r,R[j]=r:=⟨_,rfl⟩
   have hgd:R.getD (j:Int).toNat default=r:=by rw[Int.toNat_natCast,List.getD_eq_getElem?_getD,List.getElem?_eq_getElem hjR,hr];rfl
   have hd:l.drop k=(j:Int)::l.drop (k+1):=by rw[List.drop_eq_getElem_cons hkl,hi0]
   have hw:IntKind.i64.wrap ((k:Int)+1)=k+1:=am (by omega) (by omega)
   have hkd:=te R X r.root b (by omega) (by omega)
   rw[hd,jH,hgd] at i3;obtain⟨⟨kd,ka,ke⟩,hkk⟩:∃p,cJ X r.root b=p:=⟨_,rfl⟩
   rw[hkk] at hkd i3;simp only[Int.toNat_natCast] at hkd i3;have hbl:b.length<=8589934591:=by omega
   obtain⟨lt,hlt2⟩:∃v,Hh r=v:=⟨_,rfl⟩
   have hlt3:(r.kind==[108,101,116])=lt:=hlt2;rw[hlt2] at i3;replace H:=And.intro hlt (And.intro hkl (And.intro hi0 (And.intro hjR (And.intro hjN (And.intro hjK (And.intro hNK (And.intro hr (And.intro hw (And.intro hbl H)))))))));refine WpC.seq ?_;refine WpC.block ?_;iterate 2 refine zR ?_
   refine WpC.seq ?_;refine WpC.region ?_;refine zO 4 ?_;refine zB tG (hkd) ?_;refine zO 7 ?_;refine WpO.nil ?_;refine WpC.seq ?_;refine WpC.block ?_;refine zR ?_;refine zD (¬ke=0) (λd52=>?_) (λd52=>?_)
   ·replace H:=And.intro d52 H;refine zR ?_;refine WpC.ret ?_;try simp only[aa,aj]
    refine zE ?_;rw[if_neg d52] at i3;rw[hS0,i3,r8];simp
   have he0:ke=0:=by omega
   rw[if_pos he0] at i3;replace H:=And.intro d52 H;refine WpC.seq ?_;refine WpC.val 57 (.d (.bool (((!(r.kind==[108,101,116]))&&!decide (kd=1))))) ?_ ?_
   ·refine WpC.region ?_;refine zO 4 ?_;refine zS 61 (λg61=>?_) (λg61=>?_)
    ·have g61':=zN g61;replace H:=And.intro g61 H;refine zO 4 ?_;refine WpO.nil ?_;refine⟨rfl,Gh.only 57 9 ?_ (by first|rfl|simp -implicitDefEqProofs[H]) (by rfl)⟩
     simp -implicitDefEqProofs[H,g61']
    have g61':=zN g61;replace H:=And.intro g61 H;refine zO 4 ?_;refine WpO.nil ?_;refine⟨rfl,Gh.only 57 9 ?_ (by first|rfl|simp -implicitDefEqProofs[H]) (by rfl)⟩
    simp -implicitDefEqProofs[H,g61']
   refine zC (λc57=>?_) (λc57=>?_)
   ·have c57':=zN c57;rw[hlt3] at c57;rw[if_pos c57] at i3;replace H:=And.intro c57 H;refine zR ?_;refine WpC.ret ?_;try simp only[aa,aj]
    refine zE ?_;rw[hS0,i3,r8];simp
   have c57':=zN c57;have hgo:Z=jH R X (l.drop (k+1)) (ks.set j kd) (b++[⟨r.name,kd⟩]):=by
    rw[hlt3] at c57;rw[if_neg (by rw[c57];decide)] at i3
    exact i3
   replace H:=And.intro c57 H;refine WpC.skip ?_;refine zR ?_;iterate 2 refine zr ?_
   exact⟨hlt,⟨ks.set j kd,b++[⟨r.name,kd⟩]⟩,⟨by simpa using i1,by simp;omega,hgo⟩,Gh.pick [10,34,1,6,9,32,33] [0,1,5] (by simp -implicitDefEqProofs[H,c57'];rfl) (by simp -implicitDefEqProofs[H,c57']) (by simp) (by simp) (by simp;rfl) (by simp -implicitDefEqProofs[H,c57']) (by simp)⟩
  refine WpC.exit ?_;have hkn:k=l.length:=by omega
  subst hkn;obtain⟨ks,b⟩:=x;obtain⟨i1,i2,i3⟩:=hi;simp only at i1 i2 i3 ⊢;rw[List.drop_length,jH] at i3;have hNK:N<=ks.length:=by omega
  have htk:List.take N (ks.map dI)=ks.map dI:=List.take_of_length_le (by simp;omega)
  replace H:=And.intro hNK (And.intro htk H);refine zR ?_;refine WpC.ret ?_;try simp only[aa,aj]
  refine zE ?_;rw[hS0,i3,r8];simp
 ·rw[if_neg he];refine ah.enter tabOk Tryz.func65 rfl (by show 1<=80;decide) ?_
  simp only[Tryz.f65];have H:=he;refine zR ?_;refine WpC.seq ?_;refine WpC.region ?_;refine zO 1 ?_;refine zG tH (h1) ?_;refine zO 7 ?_;refine WpO.nil ?_;refine WpC.seq ?_;refine zR ?_;refine zT ?_;refine zR ?_;refine WpC.ret ?_;try simp only[aa,aj]
  refine zE ?_;simp -implicitDefEqProofs[H]
end Go.Proofs.YtlhmejigmokbhaaGreatDoor.Pay
