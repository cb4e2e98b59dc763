/- The texts RsA, one behind the other. No statement of the seed is proved here. -/
import Derived.Test.YtlhmejigmokbhaaGreatDoorMgW
namespace Go.Proofs.YtlhmejigmokbhaaGreatDoor.Pay
open Go Go.RowKit
set_option linter.unusedVariables false
set_option linter.unusedSimpArgs false
def cG (n:Int):Bool:=decide (0<=n)&&decide (n<=10000)
theorem dQ (n:Int):ah Tryz.prog 44 [.d (dI n)] (.d (.bool (cG n))):=by
 refine ah.enter tabOk Tryz.func44 rfl (by show 1<=9;decide) ?_
 simp only[Tryz.f44];have H:=trivial;refine zR ?_;refine WpC.seq ?_;refine WpC.val 2 (.d (.bool (cG n))) ?_ ?_
 ·refine WpC.region ?_;refine zO 3 ?_;refine zS 5 (λg5=>?_) (λg5=>?_)
  ·have g5':=zN g5;replace H:=And.intro g5 H;refine zO 4 ?_;refine WpO.nil ?_;refine⟨rfl,Gh.only 2 8 ?_ (by first|rfl|simp -implicitDefEqProofs[H]) (by rfl)⟩
   simp -implicitDefEqProofs[H,g5',cG]
  have g5':=zN g5;replace H:=And.intro g5 H;refine zO 4 ?_;refine WpO.nil ?_;refine⟨rfl,Gh.only 2 8 ?_ (by first|rfl|simp -implicitDefEqProofs[H]) (by rfl)⟩
  simp -implicitDefEqProofs[H,g5',cG]
 refine WpC.ret ?_;try simp only[aa,aj]
 refine zE ?_;simp -implicitDefEqProofs[H]
theorem kb (a b:Nat) (ha:a<=9223372036854775807) (hb:b<=10000):ah Tryz.prog 72 [.d (dI a),.d (dI b),.d (dI 0)] (.tup [.d (dI (a*b/10000:Nat)),.d (dI 0)]):=by
 have h1:=dQ b;rw[show cG b=true from by simp[cG];omega] at h1
 have h2:=nQ a b 10000 ha hb (by omega) (by omega)
 obtain⟨q,hq⟩:∃q,a*b/10000=q:=⟨_,rfl⟩
 rw[hq] at h2 ⊢;refine ah.enter tabOk Tryz.func72 rfl (by show 3<=17;decide) ?_
 simp only[Tryz.f72];have H:=trivial;refine zR ?_;refine WpC.seq ?_;refine WpC.seq ?_;refine WpC.region ?_;refine zO 1 ?_;refine zG cr (h1) ?_;refine zO 1 ?_;refine WpO.nil ?_;refine zF ?_;refine WpC.skip ?_;refine WpC.seq ?_;refine WpC.region ?_;refine zO 3 ?_;refine zG lq (h2) ?_;refine zO 4 ?_;refine WpO.nil ?_;refine WpC.ret ?_;try simp only[aa,aj]
 refine zE ?_;simp -implicitDefEqProofs[H]
structure Rw where
 above:Int
 rate:Int
 deriving DecidableEq,Inhabited
@[reducible] def Rw.cs (p:Rw):List D:=[dI p.above,dI p.rate]
@[reducible] def Rw.enc (p:Rw):D:= .agg p.cs
@[reducible] def iG (l:List Rw):D:= .list 2 (l.map Rw.enc)
def jR (q p:Rw) (k:Nat):Bool:=(decide (k=0)&&!decide (p.above=0))||(decide (0<k)&&decide (p.above<=q.above))||!cG p.rate
def dg (l:List Rw) (k:Nat):Rw:=l.getD k default
def mN (l:List Rw) (k:Nat):Bool:=!jR (dg l (k-1)) (dg l k) k
def po (l:List Rw) (k:Nat):Bool:=(List.range k).all (mN l)
theorem vd (l:List Rw) (k:Nat):po l (k+1)=(po l k&&mN l k):=by
 unfold po;rw[List.range_succ,List.all_append];simp
theorem CH {l:List Rw} {k n:Nat} (h:k<n) (h2:mN l k=false):po l n=false:=by
 unfold po;rw[List.all_eq_false];exact⟨k,List.mem_range.2 h,by simp[h2]⟩
theorem CI {l:List Rw} {n k:Nat} (h:po l n=true) (hk:k<n):mN l k=true:=List.all_eq_true.1 h k (List.mem_range.2 hk)
def gv (l:List Rw):Bool:=po l l.length&&decide (1<=l.length)&&decide (l.length<=12)
theorem je {l:List Rw} {k:Nat} (h:k<l.length):dg l k=l[k]:=by simp[dg,List.getD,h]
set_option maxHeartbeats 4000000 in
theorem tV (l:List Rw) (hl:l.length<=1000000000):ah Tryz.prog 41 [.d (iG l)] (.d (.bool (gv l))):=by
 refine ah.enter tabOk Tryz.func41 rfl (by show 1<=49;decide) ?_
 simp only[Tryz.f41];have H:=trivial;refine zR ?_;refine WpC.seq ?_;refine zR ?_;refine WpC.block ?_;refine WpC.loopK [0,5,6] [7] (l.length) (():Unit) (λk _=>[(7,.d (.int .i64 k))]) (λk _=>[]) (λk _=>po l k=true) (by simp -implicitDefEqProofs[H]<;>rfl) (Gh.cut' [7,0,5,6] 0 (by simp -implicitDefEqProofs[H]) (by simp -implicitDefEqProofs[H]) rfl (by simp) (by simp) (by simp)) (by rfl) ?_
 rintro k ⟨⟩ hk hi;simp only[List.cons_append,List.nil_append];refine zR ?_;refine WpC.seq (zL (k<l.length) (λhlt=>?_) (λhge=>?_))
 ·refine WpC.skip ?_;have hkl:k<l.length:=by omega
  obtain⟨p,hp⟩:∃p,l[k]=p:=⟨_,rfl⟩
  have hpd:dg l k=p:=by rw[je hkl,hp]
  have hw:IntKind.i64.wrap ((k:Int)+1)=k+1:=am (by omega) (by omega)
  have hw1:k≠0->IntKind.i64.wrap ((k:Int)-1)=((k-1:Nat):Int):=λh=>by rw[am (by omega) (by omega)];omega
  have hk1:k-1<l.length:=by omega
  obtain⟨q,hq⟩:∃q,l[k-1]=q:=⟨_,rfl⟩
  have hqd:dg l (k-1)=q:=by rw[je hk1,hq]
  have hat:mN l k=!jR q p k:=by unfold mN;rw[hpd,hqd]
  have hst:=vd l k;rw[hi,Bool.true_and] at hst;have hrt:=dQ p.rate;replace H:=And.intro hlt (And.intro hkl (And.intro hp (And.intro hw (And.intro hk1 (And.intro hq H)))));refine WpC.seq ?_;refine WpC.block ?_;refine zR ?_;refine WpC.seq ?_;refine WpC.val 39 (.d (.bool (jR q p k))) ?_ ?_
  ·refine WpC.drawn tabOk (by kernel_rfl) 0 (by simp) ?_
   refine yO 3 ?_;refine yS 14 (λg14=>?_) (λg14=>?_)
   ·try(exfalso;revert g14;simp;done)
    all_goals
     have g14':=zN g14;replace H:=And.intro g14 H;refine yO 3 ?_;refine yO 2 ?_;refine yS 19 (λg19=>?_) (λg19=>?_)
     ·try(exfalso;revert g19;simp;done)
      all_goals
       have g19':=zN g19;replace H:=And.intro g19 H;iterate 6 refine yO 3 ?_
       refine yO 2 ?_;refine DrO.nil ⟨by kernel_rfl,?_⟩
       refine⟨rfl,Gh.only 39 28 ?_ (by first|rfl|simp -implicitDefEqProofs[H]) (by rfl)⟩
       simp -implicitDefEqProofs[H,g14',g19',jR]<;>omega
     ·try(exfalso;revert g19;simp;done)
      all_goals
       have g19':=zN g19;replace H:=And.intro g19 H;refine yO 3 ?_;refine yS 22 (λg22=>?_) (λg22=>?_)
       ·try(exfalso;revert g22;simp;done)
        all_goals
         have g22':=zN g22;have hk0:k≠0:=by omega
         have hw2:=hw1 hk0;replace H:=And.intro g22 (And.intro hw2 (And.intro hk0 H));iterate 4 refine yO 3 ?_
         refine yS 34 (λg34=>?_) (λg34=>?_)
         ·try(exfalso;revert g34;simp;done)
          all_goals
           have g34':=zN g34;replace H:=And.intro g34 H;refine yO 3 ?_;refine yO 2 ?_;refine DrO.nil ⟨by kernel_rfl,?_⟩
           refine⟨rfl,Gh.only 39 28 ?_ (by first|rfl|simp -implicitDefEqProofs[H]) (by rfl)⟩
           simp -implicitDefEqProofs[H,g14',g19',g22',g34',jR]<;>omega
         ·try(exfalso;revert g34;simp;done)
          all_goals
           have g34':=zN g34;replace H:=And.intro g34 H;refine yO 2 ?_;refine yG cr (hrt) ?_;refine yO 2 ?_;refine DrO.nil ⟨by kernel_rfl,?_⟩
           refine⟨rfl,Gh.only 39 28 ?_ (by first|rfl|simp -implicitDefEqProofs[H]) (by rfl)⟩
           simp -implicitDefEqProofs[H,g14',g19',g22',g34',jR]<;>omega
       ·try(exfalso;revert g22;simp;done)
        all_goals
         have g22':=zN g22;have hk0:k=0:=by omega
         replace H:=And.intro g22 (And.intro hk0 H);iterate 4 refine yO 3 ?_
         refine yO 2 ?_;refine yG cr (hrt) ?_;refine yO 2 ?_;refine DrO.nil ⟨by kernel_rfl,?_⟩
         refine⟨rfl,Gh.only 39 28 ?_ (by first|rfl|simp -implicitDefEqProofs[H]) (by rfl)⟩
         simp -implicitDefEqProofs[H,g14',g19',g22',jR]<;>omega
   ·try(exfalso;revert g14;simp;done)
    all_goals
     have g14':=zN g14;replace H:=And.intro g14 H;iterate 2 refine yO 3 ?_
     refine yO 2 ?_;refine yS 22 (λg22=>?_) (λg22=>?_)
     ·try(exfalso;revert g22;simp;done)
      all_goals
       have g22':=zN g22;have hk0:k≠0:=by omega
       have hw2:=hw1 hk0;replace H:=And.intro g22 (And.intro hw2 (And.intro hk0 H));iterate 4 refine yO 3 ?_
       refine yS 34 (λg34=>?_) (λg34=>?_)
       ·try(exfalso;revert g34;simp;done)
        all_goals
         have g34':=zN g34;replace H:=And.intro g34 H;refine yO 3 ?_;refine yO 2 ?_;refine DrO.nil ⟨by kernel_rfl,?_⟩
         refine⟨rfl,Gh.only 39 28 ?_ (by first|rfl|simp -implicitDefEqProofs[H]) (by rfl)⟩
         simp -implicitDefEqProofs[H,g14',g22',g34',jR]<;>omega
       ·try(exfalso;revert g34;simp;done)
        all_goals
         have g34':=zN g34;replace H:=And.intro g34 H;refine yO 2 ?_;refine yG cr (hrt) ?_;refine yO 2 ?_;refine DrO.nil ⟨by kernel_rfl,?_⟩
         refine⟨rfl,Gh.only 39 28 ?_ (by first|rfl|simp -implicitDefEqProofs[H]) (by rfl)⟩
         simp -implicitDefEqProofs[H,g14',g22',g34',jR]<;>omega
     ·try(exfalso;revert g22;simp;done)
      all_goals
       have g22':=zN g22;have hk0:k=0:=by omega
       replace H:=And.intro g22 (And.intro hk0 H);iterate 4 refine yO 3 ?_
       refine yO 2 ?_;refine yG cr (hrt) ?_;refine yO 2 ?_;refine DrO.nil ⟨by kernel_rfl,?_⟩
       refine⟨rfl,Gh.only 39 28 ?_ (by first|rfl|simp -implicitDefEqProofs[H]) (by rfl)⟩
       simp -implicitDefEqProofs[H,g14',g22',jR]<;>omega
  refine zC (λc39=>?_) (λc39=>?_)
  ·have c39':=zN c39;replace H:=And.intro c39 H;refine zR ?_;refine WpC.ret ?_;try simp only[aa,aj]
   refine zE ?_;have:po l l.length=false:=CH hkl (by rw[hat];simpa using c39)
   simp[gv,this]
  have c39':=zN c39;replace H:=And.intro c39 H;refine WpC.skip ?_;refine zr ?_;exact⟨hlt,(),by rw[hst,hat];simpa using c39,Gh.cut' [7,0,5,6] 0 (by simp -implicitDefEqProofs[H,c39']) (by simp) rfl (by simp) (by simp) (by simp)⟩
 refine WpC.exit ?_;have hkn:k=l.length:=by omega
 subst hkn;refine WpC.seq ?_;refine WpC.region ?_;refine zO 4 ?_;refine zS 44 (λg44=>?_) (λg44=>?_)
 ·have g44':=zN g44;replace H:=And.intro g44 H;refine zO 5 ?_;refine WpO.nil ?_;refine WpC.ret ?_;try simp only[aa,aj]
  refine zE ?_;have hr:gv l=(decide (1<=l.length)&&decide (l.length<=12)):=by rw[gv,hi,Bool.true_and]
  have e1:decide ((1:Int)<=l.length)=decide (1<=l.length):=decide_eq_decide.2 (by omega)
  have e2:decide ((l.length:Int)<=12)=decide (l.length<=12):=decide_eq_decide.2 (by omega)
  first
  |(simp[hr,g44',e2];done)
  |(simp[hr,g44',e1];done)
  |(simp[hr,e1,e2];omega)
 have g44':=zN g44;replace H:=And.intro g44 H;refine zO 5 ?_;refine WpO.nil ?_;refine WpC.ret ?_;try simp only[aa,aj]
 refine zE ?_;have hr:gv l=(decide (1<=l.length)&&decide (l.length<=12)):=by rw[gv,hi,Bool.true_and]
 have e1:decide ((1:Int)<=l.length)=decide (1<=l.length):=decide_eq_decide.2 (by omega)
 have e2:decide ((l.length:Int)<=12)=decide (l.length<=12):=decide_eq_decide.2 (by omega)
 first
 |(simp[hr,g44',e2];done)
 |(simp[hr,g44',e1];done)
 |(simp[hr,e1,e2];omega)
theorem bM {l:List Rw} (h:gv l=true):1<=l.length/\l.length<=12/\(∀k,k<l.length->0<=(dg l k).above/\0<=(dg l k).rate/\(dg l k).rate<=10000)/\(dg l 0).above=0/\∀k,k+1<l.length->(dg l k).above<(dg l (k+1)).above:=by
 simp only[gv,Bool.and_eq_true,decide_eq_true_eq] at h;obtain⟨⟨hu,h1⟩,h2⟩:=h;have hat:∀k,k<l.length->jR (dg l (k-1)) (dg l k) k=false:=λk hk=>by
  have:=CI hu hk;simpa[mN] using this
 have h0:(dg l 0).above=0:=by
  have:=hat 0 (by omega)
  simp[jR] at this;exact this.1
 have hs:∀k,k+1<l.length->(dg l k).above<(dg l (k+1)).above:=λk hk=>by
  have:=hat (k+1) hk;simp[jR] at this;omega
 have hp:∀k,k<l.length->0<=(dg l k).above:=by
  intro k;induction k with
  |zero=>intro _;omega
  |succ k ih=>intro hk;have:=ih (by omega);have:=hs k hk;omega
 refine⟨h1,h2,λk hk=>⟨hp k hk,?_⟩,h0,hs⟩
 have:=hat k hk;simp[jR,cG] at this;omega
theorem CJ (l:List Rw) (amt:Int) (hl:l.length<=1000000000) (hb:gv l=true) (ha: -1125899906842624<=amt):ah Tryz.prog 128 [.d (iG l),.d (dI amt)] (.d (dI 0)):=by
 have h1:=tV l hl;rw[hb] at h1;have h2:=aX amt;rw[show aD amt=true from decide_eq_true (by omega)] at h2
 refine ah.enter tabOk Tryz.func128 rfl (by show 2<=13;decide) ?_
 simp only[Tryz.f128];have H:=trivial;refine zR ?_;refine WpC.seq ?_;refine WpC.block ?_;refine WpC.seq ?_;refine WpC.region ?_;refine zO 1 ?_;refine zG tR (h1) ?_;refine zO 2 ?_;refine WpO.nil ?_;refine zF ?_;refine WpC.seq ?_;refine WpC.region ?_;refine zO 1 ?_;refine zG a_ (h2) ?_;refine zO 2 ?_;refine WpO.nil ?_;refine zF ?_;refine WpC.skip ?_;refine zR ?_;refine WpC.ret ?_;try simp only[aa,aj]
 refine zE ?_;simp -implicitDefEqProofs[H]
def cH (l:List Rw) (amt:Int) (k:Nat):Int:=(if amt<=(dg l k).above then(dg l k).above else if k+1<l.length then min amt (dg l (k+1)).above else amt)-(dg l k).above
theorem jo {l:List Rw} (h:gv l=true) {amt:Int} (ha:amt<=1125899906842624) {k:Nat} (hk:k<l.length):0<=cH l amt k/\cH l amt k<=1125899906842624:=by
 obtain⟨_,_,h3,_,h5⟩:=bM h;have:=h3 k hk;unfold cH;split
 ·omega
 ·split
  ·have:=h5 k (by omega);omega
  ·omega
set_option maxHeartbeats 1000000 in
theorem wC (l:List Rw) (amt:Int) (hb:gv l=true) (ha: -1125899906842624<=amt) (ha2:amt<=1125899906842624):ah Tryz.prog 97 [.d (iG l),.d (dI amt)] (.tup [.d (.list 1 (aA (cH l amt) l.length)),.d (dI 0)]):=by
 have hbf:=bM hb;have hc:=CJ l amt (by omega) hb ha
 have hz0:aA (cH l amt) 0=[]:=rfl;refine ah.enter tabOk Tryz.func97 rfl (by show 2<=53;decide) ?_
 simp only[Tryz.f97];have H:=hz0;refine zR ?_;refine WpC.seq ?_;refine WpC.seq ?_;refine WpC.region ?_;refine zO 2 ?_;refine zG yp (hc) ?_;refine zO 1 ?_;refine WpO.nil ?_;refine zR ?_;refine zF ?_;refine WpC.skip ?_;refine zR ?_;refine WpC.seq ?_;refine WpC.gh (Gh.nilArr 3 1 (t:=7) (by simp) (by simp)) ?_
 refine zR ?_;refine WpC.block ?_;refine WpC.loopK [0,1,17,18] [7,19] (l.length) (():Unit) (λk _=>[(7,.sl 0 k),(19,.d (.int .i64 k))]) (λk _=>[.arr 3 1 (aA (cH l amt) k)]) (λk _=>True) (by simp -implicitDefEqProofs[H]<;>rfl) (Gh.cut' [7,19,0,1,17,18] 1 (by simp -implicitDefEqProofs[H]) (by simp -implicitDefEqProofs[H]) rfl (by simp) (by simp) (by simp)) (by simp) ?_
 rintro k ⟨⟩ hk hi;simp only[List.cons_append,List.nil_append];refine zR ?_;refine WpC.seq (zL (k<l.length) (λhlt=>?_) (λhge=>?_))
 ·refine WpC.skip ?_;have hkl:k<l.length:=by omega
  obtain⟨p,hp⟩:∃p,l[k]=p:=⟨_,rfl⟩
  have hpd:dg l k=p:=by rw[je hkl,hp]
  have hw:IntKind.i64.wrap ((k:Int)+1)=((k+1:Nat):Int):=by rw[am (by omega) (by omega)];omega
  have hra:=l5 (cH l amt) k;have hks:k<=8589934591:=by omega
  have hpin:=jo hb ha2 hkl;obtain⟨z,hz⟩:∃z,cH l amt k=z:=⟨_,rfl⟩
  rw[hz] at hra hpin;have hzd:=hz;unfold cH at hzd;rw[hpd] at hzd;obtain⟨k1,hk1⟩:∃j,k+1=j:=⟨_,rfl⟩
  rw[hk1] at hw hzd hra;have hpos:=(hbf.2.2.1 k hkl).1;rw[hpd] at hpos;replace H:=And.intro hlt (And.intro hkl (And.intro hp (And.intro hw (And.intro hks H))));refine WpC.seq ?_;refine WpC.block ?_;iterate 2 refine zR ?_
  refine WpC.seq ?_;refine zR ?_;refine zD ((k1:Int)<l.length) (λd29=>?_) (λd29=>?_)
  ·have hkl1:k1<l.length:=by omega
   obtain⟨q,hq⟩:∃q,l[k1]=q:=⟨_,rfl⟩
   have hqd:dg l k1=q:=by rw[je hkl1,hq]
   rw[if_pos hkl1,hqd] at hzd;replace H:=And.intro d29 (And.intro hkl1 (And.intro hq H));refine zr ?_;refine WpC.seq ?_;refine zR ?_;refine zD (amt<=p.above) (λd41=>?_) (λd41=>?_)
   ·rw[if_pos d41] at hzd;have wz:IntKind.i64.wrap 0=z:=by rw[am (by omega) (by omega)];omega
    replace H:=And.intro d41 (And.intro wz H);iterate 3 refine zr ?_
    exact⟨hlt,(),trivial,Gh.pick [7,19,0,1,17,18] [3] (by simp -implicitDefEqProofs[H,hra,hk1,wz];rfl) (by simp -implicitDefEqProofs[H,hra,hk1,wz]) (by simp) (by simp) (by simp;rfl) (by simp -implicitDefEqProofs[H,hra,hk1,wz]) (by simp)⟩
   rw[if_neg d41] at hzd;first
    |have wz:IntKind.i64.wrap (min amt q.above-p.above)=z:=by rw[hzd];exact am (by omega) (by omega)
    |have wz:IntKind.i64.wrap (amt-p.above)=z:=by rw[hzd];exact am (by omega) (by omega)
   replace H:=And.intro d41 (And.intro wz H);refine WpC.skip ?_;iterate 2 refine zr ?_
   exact⟨hlt,(),trivial,Gh.pick [7,19,0,1,17,18] [3] (by simp -implicitDefEqProofs[H,hra,hk1,wz];rfl) (by simp -implicitDefEqProofs[H,hra,hk1,wz]) (by simp) (by simp) (by simp;rfl) (by simp -implicitDefEqProofs[H,hra,hk1,wz]) (by simp)⟩
  have hkl1:¬k1<l.length:=by omega
  rw[if_neg hkl1] at hzd;replace H:=And.intro d29 H;refine WpC.skip ?_;refine WpC.seq ?_;refine zR ?_;refine zD (amt<=p.above) (λd41=>?_) (λd41=>?_)
  ·rw[if_pos d41] at hzd;have wz:IntKind.i64.wrap 0=z:=by rw[am (by omega) (by omega)];omega
   replace H:=And.intro d41 (And.intro wz H);iterate 3 refine zr ?_
   exact⟨hlt,(),trivial,Gh.pick [7,19,0,1,17,18] [3] (by simp -implicitDefEqProofs[H,hra,hk1,wz];rfl) (by simp -implicitDefEqProofs[H,hra,hk1,wz]) (by simp) (by simp) (by simp;rfl) (by simp -implicitDefEqProofs[H,hra,hk1,wz]) (by simp)⟩
  rw[if_neg d41] at hzd;first
   |have wz:IntKind.i64.wrap (min amt q.above-p.above)=z:=by rw[hzd];exact am (by omega) (by omega)
   |have wz:IntKind.i64.wrap (amt-p.above)=z:=by rw[hzd];exact am (by omega) (by omega)
  replace H:=And.intro d41 (And.intro wz H);refine WpC.skip ?_;iterate 2 refine zr ?_
  exact⟨hlt,(),trivial,Gh.pick [7,19,0,1,17,18] [3] (by simp -implicitDefEqProofs[H,hra,hk1,wz];rfl) (by simp -implicitDefEqProofs[H,hra,hk1,wz]) (by simp) (by simp) (by simp;rfl) (by simp -implicitDefEqProofs[H,hra,hk1,wz]) (by simp)⟩
 refine WpC.exit ?_;have hkn:k=l.length:=by omega
 subst hkn;refine zR ?_;refine WpC.ret ?_;try simp only[aa,aj]
 refine zE ?_;simp -implicitDefEqProofs[H]
def iK (l:List Rw) (amt:Int) (k:Nat):Int:=cH l amt k*(dg l k).rate/10000
def rD (l:List Rw) (amt:Int):Int:=aJ (iK l amt) l.length
theorem k6 {l:List Rw} (h:gv l=true) {amt:Int} (ha:amt<=1125899906842624) {k:Nat} (hk:k<l.length):0<=iK l amt k/\iK l amt k<=1125899906842624:=by
 obtain⟨_,_,h3,_,h5⟩:=bM h;have h1:=h3 k hk;have h2:=jo h ha hk;unfold iK;have h4:cH l amt k*(dg l k).rate<=cH l amt k*10000:=Int.mul_le_mul_of_nonneg_left h1.2.2 h2.1;have h5:0<=cH l amt k*(dg l k).rate:=Int.mul_nonneg h2.1 h1.2.1;omega
theorem sk {l:List Rw} (h:gv l=true) {amt:Int} (ha:amt<=1125899906842624) {n:Nat} (hn:n<=l.length):0<=aJ (iK l amt) n/\aJ (iK l amt) n<=13510798882111488:=by
 have hl:=bM h;refine⟨fF λi hi=>(k6 h ha (by omega)).1,?_⟩
 have:=lT (f:=iK l amt) (b:=1125899906842624) (by omega) (n:=n) λi hi=>(k6 h ha (by omega)).2
 have h12:(n:Int)*1125899906842624<=12*1125899906842624:=Int.mul_le_mul_of_nonneg_right (by omega) (by omega)
 omega
theorem E4 (l:List Rw) (amt:Int) (hb:gv l=true) (ha: -1125899906842624<=amt) (ha2:amt<=1125899906842624):ah Tryz.prog 71 [.d (iG l),.d (dI amt)] (.tup [.d (dI (rD l amt)),.d (dI 0)]):=by
 have hbf:=bM hb;have hc:=wC l amt hb ha ha2;have hz0:aJ (iK l amt) 0=0:=rfl;refine ah.enter tabOk Tryz.func71 rfl (by show 2<=44;decide) ?_
 simp only[Tryz.f71];have H:=hz0;refine zR ?_;refine WpC.seq ?_;refine WpC.region ?_;refine zO 2 ?_;refine zG B6 (hc) ?_;refine zO 5 ?_;refine WpO.nil ?_;refine WpC.seq ?_;refine zR ?_;refine zF ?_;refine WpC.skip ?_;refine zR ?_;refine WpC.seq ?_;refine zR ?_;refine WpC.block ?_;refine WpC.loopK [0,22,23] [8,24] (l.length) (():Unit) (λk _=>[(8,.d (dI (aJ (iK l amt) k))),(24,.d (.int .i64 k))]) (λk _=>[]) (λk _=>True) (by simp -implicitDefEqProofs[H]<;>rfl) (Gh.cut' [8,24,0,22,23] 0 (by simp -implicitDefEqProofs[H]) (by simp -implicitDefEqProofs[H]) rfl (by simp) (by simp) (by simp)) (by simp) ?_
 rintro k ⟨⟩ hk hi;simp only[List.cons_append,List.nil_append];refine zR ?_;refine WpC.seq (zL (k<l.length) (λhlt=>?_) (λhge=>?_))
 ·refine WpC.skip ?_;have hkl:k<l.length:=by omega
  obtain⟨p,hp⟩:∃p,l[k]=p:=⟨_,rfl⟩
  have hpd:dg l k=p:=by rw[je hkl,hp]
  have hw:IntKind.i64.wrap ((k:Int)+1)=k+1:=am (by omega) (by omega)
  have hpin:=jo hb ha2 hkl;have hti:=k6 hb ha2 hkl;have hts:=sk hb ha2 (n:=k) (by omega)
  have hst:=aO (iK l amt) k;have hbk:=hbf.2.2.1 k hkl;rw[hpd] at hbk;obtain⟨z,hz⟩:∃z:Nat,cH l amt k=z:=⟨(cH l amt k).toNat,by omega⟩
  obtain⟨r,hr⟩:∃z:Nat,p.rate=z:=⟨p.rate.toNat,by omega⟩
  have hof:=kb z r (by omega) (by omega)
  have htz:iK l amt k=((z*r/10000:Nat):Int):=by unfold iK;rw[hz,hpd,hr,<-Int.natCast_mul];omega
  rw[htz] at hst hti;obtain⟨q,hq⟩:∃q,z*r/10000=q:=⟨_,rfl⟩
  rw[hq] at hst hti hof;have hwq:IntKind.i64.wrap (aJ (iK l amt) k+q)=aJ (iK l amt) (k+1):=by rw[hst];exact am (by omega) (by omega)
  replace H:=And.intro hlt (And.intro hkl (And.intro hp (And.intro hw (And.intro hwq (And.intro hz (And.intro hr H))))));refine WpC.seq ?_;refine WpC.block ?_;refine zR ?_;refine WpC.seq ?_;refine WpC.region ?_;refine zO 6 ?_;refine zG pi (hof) ?_;refine zO 5 ?_;refine WpO.nil ?_;iterate 2 refine zr ?_
  exact⟨hlt,(),trivial,Gh.cut' [8,24,0,22,23] 0 (by simp -implicitDefEqProofs[H]) (by simp) rfl (by simp) (by simp) (by simp)⟩
 refine WpC.exit ?_;have hkn:k=l.length:=by omega
 subst hkn;refine zR ?_;refine WpC.ret ?_;try simp only[aa,aj]
 refine zE ?_;simp[rD]
end Go.Proofs.YtlhmejigmokbhaaGreatDoor.Pay
