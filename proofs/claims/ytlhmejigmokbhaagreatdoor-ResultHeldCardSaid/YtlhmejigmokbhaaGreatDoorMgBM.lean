/- The texts VaE, VaF, one behind the other. No statement of the seed is proved here. -/
import Derived.Test.YtlhmejigmokbhaaGreatDoorMgBH
import Derived.Test.YtlhmejigmokbhaaGreatDoorMgBL
namespace Go.Proofs.YtlhmejigmokbhaaGreatDoor.Pay
open Go Go.RowKit
set_option linter.unusedVariables false
set_option linter.unusedSimpArgs false
structure Inp where
 base:Int
 bonus:Int
 hours:Int
 days:Int
 lead:Bool
 deriving DecidableEq,Inhabited
@[reducible] def Inp.cs (p:Inp):List D:=[dI p.base,dI p.bonus,dI p.hours,dI p.days,.bool p.lead]
@[reducible] def Inp.enc (p:Inp):D:= .agg p.cs
def Inp.ok (p:Inp):Prop:=aC p.base/\aC p.bonus/\aC p.hours/\aC p.days
def Inp.nums (p:Inp):List Int:=[p.base,p.bonus,p.hours,p.days,if p.lead=true then 1 else 0]
def wsR (I:List Bd) (L:List Int) (k:Nat):List Wo:=(List.range k).map λi=>⟨(I.getD i default).name,(I.getD i default).kind,aQ L i⟩
def aT (p:Inp):List Wo:=wsR eN p.nums 5
theorem pA (I:List Bd) (L:List Int) (k:Nat):wsR I L (k+1)=wsR I L k++[⟨(I.getD k default).name,(I.getD k default).kind,aQ L k⟩]:=by
 rw[wsR,wsR,List.range_succ,List.map_append];rfl
theorem nr {p:Inp} (h:p.ok):∀w∈aT p,aC w.val:=by
 obtain⟨h1,h2,h3,h4⟩:=h;intro w hw;have h5:aC (if p.lead=true then 1 else 0):=by unfold aC;split<;>omega
 simp[aT,wsR,eN,Inp.nums,List.range,List.range.loop,aQ] at hw;rcases hw with rfl|rfl|rfl|rfl|rfl
 ·exact h1
 ·exact h2
 ·exact h3
 ·exact h4
 ·exact h5
def wsD (I:List Bd) (L:List Int) (k:Nat):List D:=(wsR I L k).map Wo.enc
set_option maxHeartbeats 4000000 in
theorem ub (p:Inp):jV Tryz.prog 66 [.d p.enc] ov 3 ((aT p).map Wo.enc):=by
 have hin5:=kq;obtain⟨I5,hI⟩:∃I,eN=I:=⟨_,rfl⟩
 have hI5:I5.length=5:=by rw[<-hI];rfl
 obtain⟨lead,hld⟩:∃l:Int,(if p.lead=true then(1:Int) else 0)=l:=⟨_,rfl⟩
 obtain⟨L5,hL⟩:∃L,p.nums=L:=⟨_,rfl⟩
 have hL5:L5.length=5:=by rw[<-hL];rfl
 have hLm:L5.map dI=[dI p.base,dI p.bonus,dI p.hours,dI p.days,dI lead]:=by rw[<-hL,<-hld];rfl
 have hW:aT p=wsR I5 L5 5:=by rw[aT,hI,hL]
 rw[hI] at hin5;have hfin:(aT p).map Wo.enc=wsD I5 L5 5:=by rw[hW];rfl
 have hlen:(wsD I5 L5 5).length=5:=by simp[wsD,wsR]
 rw[hfin];refine WpF.enter tabOk Tryz.func66 rfl (by show 1<=41;decide) ?_
 simp only[Tryz.f66];have H:=trivial;iterate 2 refine zR ?_
 refine WpC.seq ?_;refine zR ?_;refine zC (λc9=>?_) (λc9=>?_)
 ·have c9':=zN c9;have hle:lead=1:=by rw[<-hld,if_pos (by simpa using c9)]
  have hLq:L5.map dI=[dI p.base,dI p.bonus,dI p.hours,dI p.days,.int .i64 1]:=by rw[hLm,hle]
  replace H:=And.intro c9 H;refine zr ?_;iterate 2 refine zR ?_
  refine WpC.seq ?_;refine WpC.seq ?_;refine WpC.region ?_;refine zP [] ln (hin5) ?_;refine zO 2 ?_;refine WpO.nil ?_;refine WpC.block ?_;refine WpC.gh (Gh.nilArr ov 3 (t:=5) (by simp) (by simp)) ?_
  refine WpC.loopK [4,20,21] [5,22] (I5.length) (():Unit) (λk _=>[(5,.sl 3 k),(22,.d (.int .i64 k))]) (λk _=>[.cells 27 [.d (dI p.base),.d (dI p.bonus),.d (dI p.hours),.d (dI p.days),.d (.bool p.lead)],.arr 3 1 (L5.map dI),.arr rI 2 (I5.map Bd.enc),.arr ov 3 (wsD I5 L5 k)]) (λk _=>True) (by simp -implicitDefEqProofs[H]<;>rfl) (Gh.cut' [5,22,4,20,21] 4 (by simp) (by simp[hLq,wsD,wsR,c9]) rfl (by simp) (by simp) (by simp)) (by simp) ?_
  rintro k ⟨⟩ hk hi;simp only[List.cons_append,List.nil_append];refine zR ?_;refine WpC.seq (zL (k<I5.length) (λhlt=>?_) (λhge=>?_))
  ·refine WpC.skip ?_;have hk5:k<I5.length:=hlt;have hkL:k<L5.length:=by omega
   have hk5i:(k:Int)<5:=by omega
   have hL55:5<=L5.length:=by omega
   have hk8:k<=8589934591:=by omega
   obtain⟨b,hb⟩:∃b,I5[k]=b:=⟨_,rfl⟩
   obtain⟨v,hv⟩:∃v,L5[k]=v:=⟨_,rfl⟩
   have hw:IntKind.i64.wrap ((k:Int)+1)=k+1:=am (by omega) (by omega)
   have hst:wsD I5 L5 (k+1)=wsD I5 L5 k++[.agg [.str b.name,dI b.kind,dI v]]:=by
    rw[wsD,pA,List.map_append,List.getD_eq_getElem?_getD,List.getElem?_eq_getElem hk5,hb,bO hkL,hv];rfl
   have hwl:(wsD I5 L5 k).length=k:=by simp[wsD,wsR]
   have hkw:k<=(wsD I5 L5 k).length:=by omega
   have htw:List.take k (wsD I5 L5 k)=wsD I5 L5 k:=List.take_of_length_le (by omega)
   replace H:=And.intro hlt (And.intro hk5 (And.intro hkL (And.intro hk5i (And.intro hL55 (And.intro hk8 (And.intro hb (And.intro hv (And.intro hw (And.intro hkw (And.intro htw (And.intro hwl H)))))))))));refine WpC.seq ?_;refine WpC.block ?_;refine zR ?_;refine WpC.drawn tabOk (by kernel_rfl) 2 (by simp) ?_
   iterate 4 refine yO 3 ?_
   refine yO 1 ?_;refine DrO.nil ⟨by kernel_rfl,?_⟩
   refine zr ?_;exact⟨hlt,(),trivial,Gh.pick [5,22,4,20,21] [0,1,2,6] (by simp -implicitDefEqProofs[H,c9',hst];rfl) (by simp -implicitDefEqProofs[H,c9',hst]) (by simp) (by simp) (by simp;rfl) (by simp -implicitDefEqProofs[H,c9',hst]) (by simp)⟩
  refine WpC.exit ?_;have hkn:k=I5.length:=by omega
  subst hkn;rw[hI5];refine zR ?_;refine WpC.gh (Gh.pick [2] [3] (by simp;rfl) (env':=[(2,.sl 0 _)]) (by simp<;>rfl) (by simp) (by simp) (by simp;rfl) (S':=[.arr ov 3 _]) (by simp<;>rfl) (by simp)) (WpC.ret ?_)
  simp[hlen]
 have c9':=zN c9;have hle:lead=0:=by rw[<-hld,if_neg (by rw[c9];decide)]
 have hLq:L5.map dI=[dI p.base,dI p.bonus,dI p.hours,dI p.days,.int .i64 0]:=by rw[hLm,hle]
 replace H:=And.intro c9 H;refine WpC.skip ?_;iterate 2 refine zR ?_
 refine WpC.seq ?_;refine WpC.seq ?_;refine WpC.region ?_;refine zP [] ln (hin5) ?_;refine zO 2 ?_;refine WpO.nil ?_;refine WpC.block ?_;refine WpC.gh (Gh.nilArr ov 3 (t:=5) (by simp) (by simp)) ?_
 refine WpC.loopK [4,20,21] [5,22] (I5.length) (():Unit) (λk _=>[(5,.sl 3 k),(22,.d (.int .i64 k))]) (λk _=>[.cells 27 [.d (dI p.base),.d (dI p.bonus),.d (dI p.hours),.d (dI p.days),.d (.bool p.lead)],.arr 3 1 (L5.map dI),.arr rI 2 (I5.map Bd.enc),.arr ov 3 (wsD I5 L5 k)]) (λk _=>True) (by simp -implicitDefEqProofs[H]<;>rfl) (Gh.cut' [5,22,4,20,21] 4 (by simp) (by simp[hLq,wsD,wsR,c9]) rfl (by simp) (by simp) (by simp)) (by simp) ?_
 rintro k ⟨⟩ hk hi;simp only[List.cons_append,List.nil_append];refine zR ?_;refine WpC.seq (zL (k<I5.length) (λhlt=>?_) (λhge=>?_))
 ·refine WpC.skip ?_;have hk5:k<I5.length:=hlt;have hkL:k<L5.length:=by omega
  have hk5i:(k:Int)<5:=by omega
  have hL55:5<=L5.length:=by omega
  have hk8:k<=8589934591:=by omega
  obtain⟨b,hb⟩:∃b,I5[k]=b:=⟨_,rfl⟩
  obtain⟨v,hv⟩:∃v,L5[k]=v:=⟨_,rfl⟩
  have hw:IntKind.i64.wrap ((k:Int)+1)=k+1:=am (by omega) (by omega)
  have hst:wsD I5 L5 (k+1)=wsD I5 L5 k++[.agg [.str b.name,dI b.kind,dI v]]:=by
   rw[wsD,pA,List.map_append,List.getD_eq_getElem?_getD,List.getElem?_eq_getElem hk5,hb,bO hkL,hv];rfl
  have hwl:(wsD I5 L5 k).length=k:=by simp[wsD,wsR]
  have hkw:k<=(wsD I5 L5 k).length:=by omega
  have htw:List.take k (wsD I5 L5 k)=wsD I5 L5 k:=List.take_of_length_le (by omega)
  replace H:=And.intro hlt (And.intro hk5 (And.intro hkL (And.intro hk5i (And.intro hL55 (And.intro hk8 (And.intro hb (And.intro hv (And.intro hw (And.intro hkw (And.intro htw (And.intro hwl H)))))))))));refine WpC.seq ?_;refine WpC.block ?_;refine zR ?_;refine WpC.drawn tabOk (by kernel_rfl) 2 (by simp) ?_
  iterate 4 refine yO 3 ?_
  refine yO 1 ?_;refine DrO.nil ⟨by kernel_rfl,?_⟩
  refine zr ?_;exact⟨hlt,(),trivial,Gh.pick [5,22,4,20,21] [0,1,2,6] (by simp -implicitDefEqProofs[H,c9',hst];rfl) (by simp -implicitDefEqProofs[H,c9',hst]) (by simp) (by simp) (by simp;rfl) (by simp -implicitDefEqProofs[H,c9',hst]) (by simp)⟩
 refine WpC.exit ?_;have hkn:k=I5.length:=by omega
 subst hkn;rw[hI5];refine zR ?_;refine WpC.gh (Gh.pick [2] [3] (by simp;rfl) (env':=[(2,.sl 0 _)]) (by simp<;>rfl) (by simp) (by simp) (by simp;rfl) (S':=[.arr ov 3 _]) (by simp<;>rfl) (by simp)) (WpC.ret ?_)
 simp[hlen]
def gw (R:List Ru) (X:List Ex) (ks:List Int):List Int->List Int->List Wo->Except (Int×Int) (List Int)
 |[],out,_=> .ok out
 |i::l,out,w=>
  if (dc X (R.getD i.toNat default).root w).2=0 then
   gw R X ks l (out.set i.toNat (dc X (R.getD i.toNat default).root w).1) (w++[⟨(R.getD i.toNat default).name,aQ ks i.toNat,(dc X (R.getD i.toNat default).root w).1⟩])
  else .error (i,(dc X (R.getD i.toNat default).root w).2)
def yI:Except (Int×Int) (List Int)->List Int×Int×Int
 | .ok l=>(l,0,0)
 | .error e=>([],e.1,e.2)
def fA (R:List Ru) (X:List Ex) (p:Inp):List Int×Int×Int:=
 if (bL R X).2.2.2=0 then(if (aT p).all cg=true then yI (gw R X (bL R X).2.1 (bL R X).1 (List.replicate R.length 0) (aT p)) else([],0,3))
 else([],(bL R X).2.2.1,(bL R X).2.2.2)
theorem qP {R:List Ru} {X:List Ex}:∀(l ks:List Int) (b:List Bd) (r:List Int),jH R X l ks b= .ok r->r.length=ks.length
 |[],ks,b,r,h=>by rw[jH] at h;cases h;rfl
 |i::l,ks,b,r,h=>by
  rw[jH] at h;split at h
  ·split at h
   ·cases h
   ·have:=qP l _ _ r h;rw[this,List.length_set]
  ·cases h
theorem kQ {R:List Ru} {X:List Ex} (h:(bL R X).2.2.2=0):iJ R X=true/\(∀i∈(bL R X).1,0<=i/\i<R.length)/\(bL R X).1.length=R.length/\(bL R X).2.1.length=R.length:=by
 have hs:=pP (R:=R) (X:=X);have htx:(bV R X).2.2=0->iJ R X=true:=λh0=>by
  by_cases ht:iJ R X=true
  ·exact ht
  ·rw[bV,if_neg ht] at h0;simp at h0
 unfold bL at h ⊢;by_cases he:(bV R X).2.2=0
 ·rw[if_pos he] at h ⊢;cases hc:jH R X (bV R X).1 (List.replicate R.length 0) eN with
  |error e=>
   exfalso;rw[hc,r8] at h;simp only at h;have:∀(l ks:List Int) (b:List Bd),jH R X l ks b= .error e->e.2≠0:=by
    intro l;induction l with
    |nil=>intro ks b hx;rw[jH] at hx;cases hx
    |cons i l ih=>
     intro ks b hx;rw[jH] at hx;split at hx
     ·split at hx
      ·cases hx;simp
      ·exact ih _ _ hx
     ·rename_i hne;cases hx;exact hne
   exact this _ _ _ hc h
  |ok ks=>
   have:=qP _ _ _ _ hc;rw[List.length_replicate] at this;simp only[r8];exact⟨htx he,hs.1,hs.2.2 he,this⟩
 ·rw[if_neg he] at h;exact absurd h he
theorem qF {X:List Ex} {root:Int} {l:List Wo} (hv:∀x∈X,inE x) (hl:∀w∈l,aC w.val):aC (dc X root l).1:=by
 have h0:aC 0:=by unfold aC;omega
 unfold dc;split
 ·split
  ·split
   ·exact h0
   ·show aC (ea (fk X l (root.toNat+1) (root.toNat+1)) root).n
    rw[ea,List.getD_eq_getElem?_getD];cases h:(fk X l (root.toNat+1) (root.toNat+1))[root.toNat]? with
    |none=>exact h0
    |some u=>exact mM hv hl _ _ u (List.mem_of_getElem? h)
  ·exact h0
 ·exact h0
theorem mV {R:List Ru} {X:List Ex} {ks:List Int} (hv:∀x∈X,inE x):∀(l out:List Int) (w:List Wo) (r:List Int),gw R X ks l out w= .ok r->(∀q∈w,aC q.val)->(∀n∈out,aC n)->r.length=out.length/\∀n∈r,aC n
 |[],out,w,r,h,hw,ho=>by rw[gw] at h;cases h;exact⟨rfl,ho⟩
 |i::l,out,w,r,h,hw,ho=>by
  rw[gw] at h;split at h
  ·have he:=qF (X:=X) (root:=(R.getD i.toNat default).root) hv hw;have:=mV hv l _ _ r h (λq hq=>by
    rcases List.mem_append.1 hq with g|g
    ·exact hw q g
    ·rw[List.mem_singleton.1 g];exact he) (λn hn=>by
    rcases List.mem_or_eq_of_mem_set hn with g|g
    ·exact ho n g
    ·rw[g];exact he)
   rw[List.length_set] at this;exact this
  ·cases h
structure Av where
 out:List Int
 w:List Wo
set_option maxHeartbeats 8000000 in
theorem CM (R:List Ru) (X:List Ex) (p:Inp) (hR:R.length<=500000000) (hX:X.length<=10000) (hv:∀x∈X,inE x) (hp:p.ok):
 ah Tryz.prog 45 [.d (.agg [aL R,aM X]),.d p.enc] (.tup [.d (.list 1 ((fA R X p).1.map dI)),.d (dI (fA R X p).2.1),.d (dI (fA R X p).2.2)]):=by
 have h1:=FF R X hR hX hv;have hcf:=kQ (R:=R) (X:=X);unfold fA;obtain⟨⟨l,ks,at0,e⟩,hs⟩:∃s,bL R X=s:=⟨_,rfl⟩
 rw[hs] at h1 hcf ⊢;simp only at h1 hcf ⊢;by_cases he:e=0
 ·subst he;rw[if_pos rfl];obtain⟨htx,hin,hll,hkl⟩:=hcf rfl;have h60:=(iZ htx).2.1;have hwo:=ub p;have hwi:=nr hp;obtain⟨W,hW⟩:∃W,aT p=W:=⟨_,rfl⟩
  have hW5:W.length=5:=by rw[<-hW];simp[aT,wsR]
  rw[hW] at hwo hwi ⊢;obtain⟨N,hN⟩:∃N,R.length=N:=⟨_,rfl⟩
  have hN8:(N:Int)<=8589934592:=by omega
  rw[hN];obtain⟨Z,hZ⟩:∃Z,gw R X ks l (List.replicate N 0) W=Z:=⟨_,rfl⟩
  rw[hZ];have hZ0:=hZ.symm;obtain⟨S,hS⟩:∃S,(if W.all cg=true then yI Z else([],0,3))=S:=⟨_,rfl⟩
  rw[hS];have hS0:=hS.symm;clear hS hZ;refine ah.enter tabOk Tryz.func45 rfl (by show 2<=89;decide) ?_
  simp only[Tryz.f45];have H:=And.intro hN hN8;refine zR ?_;refine WpC.seq ?_;refine WpC.region ?_;refine zO 1 ?_;refine zG tN (h1) ?_;refine zO 9 ?_;refine WpO.nil ?_;refine WpC.seq ?_;refine zR ?_;refine zF ?_;refine WpC.skip ?_;refine WpC.seq ?_;refine WpC.region ?_;refine zO 1 ?_;refine zP [] Cn (hwo) ?_;refine zO 1 ?_;refine WpO.nil ?_;refine WpC.seq ?_;refine zR ?_;refine WpC.block ?_;refine WpC.loopK [2,7,8,11,32,33] [34] (W.length) (():Unit) (λk _=>[(34,.d (.int .i64 k))]) (λk _=>[.cells 41 [.d (aL R),.d (aM X)],.cells 27 [.d (dI p.base),.d (dI p.bonus),.d (dI p.hours),.d (dI p.days),.d (.bool p.lead)],.arr ov 3 (W.map Wo.enc)]) (λk _=>(W.take k).all cg=true) (by simp -implicitDefEqProofs[H]<;>rfl) (Gh.cut' [34,2,7,8,11,32,33] 3 (by simp -implicitDefEqProofs[H]) (by simp -implicitDefEqProofs[H]) rfl (by simp) (by simp) (by simp)) (by simp) ?_
  rintro k ⟨⟩ hk hi;simp only[List.cons_append,List.nil_append];refine zR ?_;refine WpC.seq (zL (k<W.length) (λhlt=>?_) (λhge=>?_))
  ·refine WpC.skip ?_;have hkl:k<W.length:=hlt;obtain⟨w,hw0⟩:∃w,W[k]=w:=⟨_,rfl⟩
   have hw:IntKind.i64.wrap ((k:Int)+1)=k+1:=am (by omega) (by omega)
   have hrw:=nG w;have hst:(W.take (k+1)).all cg=cg w:=by rw[List.take_add_one,List.getElem?_eq_getElem hkl,hw0,List.all_append,hi];simp
   have hwm:w∈W:=hw0▸List.getElem_mem hkl;obtain⟨b,hb⟩:∃b,cg w=b:=⟨_,rfl⟩
   rw[hb] at hst hrw;replace H:=And.intro hlt (And.intro hkl (And.intro hw0 (And.intro hw H)));refine WpC.seq ?_;refine WpC.block ?_;refine zR ?_;refine WpC.seq ?_;refine WpC.region ?_;refine zO 1 ?_;refine zG tM (hrw) ?_;refine zO 1 ?_;refine WpO.nil ?_;refine zC (λc40=>?_) (λc40=>?_)
   ·have c40':=zN c40;replace H:=And.intro c40 H;refine zR ?_;refine WpC.ret ?_;try simp only[aa,aj]
    refine zE ?_;have hf:W.all cg=false:=by
     rw[List.all_eq_false];exact⟨w,hwm,by rw[hb];simpa using c40⟩
    rw[hf] at hS0;subst hS0;simp
   have c40':=zN c40;replace H:=And.intro c40 H;refine WpC.skip ?_;refine zr ?_;exact⟨hlt,(),by rw[hst];simpa using c40,Gh.cut' [34,2,7,8,11,32,33] 3 (by simp -implicitDefEqProofs[H,c40']) (by simp -implicitDefEqProofs[H,c40']) rfl (by simp) (by simp) (by simp)⟩
  refine WpC.exit ?_;have hkn:k=W.length:=by omega
  subst hkn;rw[List.take_length] at hi;rw[if_pos hi] at hS0;refine zR ?_;refine WpC.seq ?_;refine zR ?_;refine WpC.block ?_;refine WpC.loopK [2,8,14,46,47] [11,48] (l.length) (⟨List.replicate N 0,W⟩:Av) (λk x=>[(11,.sl 2 x.w.length),(48,.d (.int .i64 k))]) (λk x=>[.cells 41 [.d (aL R),.d (aM X)],.cells 27 [.d (dI p.base),.d (dI p.bonus),.d (dI p.hours),.d (dI p.days),.d (.bool p.lead)],.arr ov 3 (x.w.map Wo.enc),.arr 3 1 (x.out.map dI)]) (λk x=>x.out.length=N/\x.w.length<=5+k/\(∀w∈x.w,aC w.val)/\Z=gw R X ks (l.drop k) x.out x.w) (by simp -implicitDefEqProofs[H]<;>rfl) (Gh.cut' [11,48,2,8,14,46,47] 4 (by simp -implicitDefEqProofs[H]) (by simp -implicitDefEqProofs[H]) rfl (by simp) (by simp) (by simp)) (⟨by simp,by simp only;omega,hwi,hZ0⟩) ?_
  rintro k x hk hi;simp only[List.cons_append,List.nil_append];refine zR ?_;refine WpC.seq (zL (k<l.length) (λhlt=>?_) (λhge=>?_))
  ·refine WpC.skip ?_;obtain⟨out,w⟩:=x;obtain⟨i1,i2,i3,i4⟩:=hi;simp only at i1 i2 i3 i4 ⊢;have hkl2:k<l.length:=hlt;obtain⟨i,hi0⟩:∃i,l[k]=i:=⟨_,rfl⟩
   have hii:=hin i (hi0▸List.getElem_mem hkl2);obtain⟨j,rfl⟩:∃j:Nat,i=j:=⟨i.toNat,by omega⟩
   have hjR:j<R.length:=by omega
   have hjN:j<N:=by omega
   have hjo:j<out.length:=by omega
   have hNo:N<=out.length:=by omega
   have hjk:j<ks.length:=by omega
   obtain⟨r,hr⟩:∃r,R[j]=r:=⟨_,rfl⟩
   obtain⟨kd,hkd⟩:∃r,ks[j]=r:=⟨_,rfl⟩
   have hgd:R.getD (j:Int).toNat default=r:=by rw[Int.toNat_natCast,List.getD_eq_getElem?_getD,List.getElem?_eq_getElem hjR,hr];rfl
   have hgk:aQ ks (j:Int).toNat=kd:=by rw[Int.toNat_natCast,bO hjk,hkd]
   have hd:l.drop k=(j:Int)::l.drop (k+1):=by rw[List.drop_eq_getElem_cons hkl2,hi0]
   have hw:IntKind.i64.wrap ((k:Int)+1)=k+1:=am (by omega) (by omega)
   have hev:=xz R X r.root w hX hv (by omega) i3
   have hei:=qF (X:=X) (root:=r.root) hv i3;rw[hd,gw,hgd,hgk] at i4;obtain⟨⟨ev,ee⟩,hee⟩:∃q,dc X r.root w=q:=⟨_,rfl⟩
   rw[hee] at hev i4 hei;simp only[Int.toNat_natCast] at hev i4 hei;have hwl:w.length<=8589934591:=by omega
   replace H:=And.intro hlt (And.intro hkl2 (And.intro hi0 (And.intro hjR (And.intro hjN (And.intro hjo (And.intro hNo (And.intro hjk (And.intro hr (And.intro hkd (And.intro hw (And.intro hwl H)))))))))));refine WpC.seq ?_;refine WpC.block ?_;refine zR ?_;refine WpC.seq ?_;refine WpC.drawn tabOk (by kernel_rfl) 0 (by simp) ?_
   iterate 2 refine yO 3 ?_
   refine yO 2 ?_;refine DrO.lend (by simp) rfl (by simp -implicitDefEqProofs[H]<;>rfl) (by simp -implicitDefEqProofs[H]<;>rfl) (by simp -implicitDefEqProofs[H]<;>rfl) Cm ((WpF.mono hev λr S h=>h.1)) (by rfl) (by simp -implicitDefEqProofs[H]<;>rfl) ?_
   refine yO 3 ?_;refine yO 2 ?_;refine DrO.nil ⟨by kernel_rfl,?_⟩
   refine WpC.seq ?_;refine zR ?_;refine zD (¬ee=0) (λd65=>?_) (λd65=>?_)
   ·replace H:=And.intro d65 H;refine zR ?_;refine WpC.ret ?_;try simp only[aa,aj]
    refine zE ?_;rw[if_neg d65] at i4;rw[hS0,i4,yI];simp
   have he0:ee=0:=by omega
   rw[if_pos he0] at i4;have hgo:=i4;replace H:=And.intro d65 H;refine WpC.skip ?_;refine zR ?_;refine WpC.drawn tabOk (by kernel_rfl) 2 (by simp) ?_
   iterate 5 refine yO 3 ?_
   refine yO 1 ?_;refine DrO.nil ⟨by kernel_rfl,?_⟩
   refine zr ?_;exact⟨hlt,⟨out.set j ev,w++[⟨r.name,kd,ev⟩]⟩,⟨by simpa using i1,by simp;omega,λq hq=>by
    rcases List.mem_append.1 hq with g|g
    ·exact i3 q g
    ·rw[List.mem_singleton.1 g];exact hei,hgo⟩,Gh.pick [11,48,2,8,14,46,47] [0,1,5,3] (by simp -implicitDefEqProofs[H];rfl) (by simp -implicitDefEqProofs[H]) (by simp) (by simp) (by simp;rfl) (by simp -implicitDefEqProofs[H]) (by simp)⟩
  refine WpC.exit ?_;have hkn:k=l.length:=by omega
  subst hkn;obtain⟨out,w⟩:=x;obtain⟨i1,i2,i3,i4⟩:=hi;simp only at i1 i2 i3 i4 ⊢;rw[List.drop_length,gw] at i4;have hNo:N<=out.length:=by omega
  have hto:List.take N (out.map dI)=out.map dI:=List.take_of_length_le (by simp;omega)
  replace H:=And.intro hNo (And.intro hto H);refine zR ?_;refine WpC.ret ?_;try simp only[aa,aj]
  refine zE ?_;rw[hS0,i4,yI];simp
 ·rw[if_neg he];refine ah.enter tabOk Tryz.func45 rfl (by show 2<=89;decide) ?_
  simp only[Tryz.f45];have H:=he;refine zR ?_;refine WpC.seq ?_;refine WpC.region ?_;refine zO 1 ?_;refine zG tN (h1) ?_;refine zO 9 ?_;refine WpO.nil ?_;refine WpC.seq ?_;refine zR ?_;refine zT ?_;refine zR ?_;refine WpC.ret ?_;try simp only[aa,aj]
  refine zE ?_;simp -implicitDefEqProofs[H]
end Go.Proofs.YtlhmejigmokbhaaGreatDoor.Pay
