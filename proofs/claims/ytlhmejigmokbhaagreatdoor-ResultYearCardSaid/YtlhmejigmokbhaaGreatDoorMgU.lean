/- The texts SpK, SpL, SpM, one behind the other. No statement of the seed is proved here. -/
import Derived.Test.YtlhmejigmokbhaaGreatDoorMgT
namespace Go.Proofs.YtlhmejigmokbhaaGreatDoor.Pay
open Go Go.RowKit
set_option linter.unusedVariables false
set_option linter.unusedSimpArgs false
set_option linter.unusedSectionVars false
def aC (n:Int):Prop:= -9223372036854775808<=n/\n<=9223372036854775807
def h_ (a b:Int):Bool:=decide (-9223372036854775807<=a/\ -9223372036854775807<=b/\ -9223372036854775807<=a+b/\a+b<=9223372036854775807)
set_option maxHeartbeats 20000000 in
theorem py (a b:Int) (ha:aC a) (hb:aC b):ah Tryz.prog 101 [.d (dI a),.d (dI b)] (.tup [.d (dI (if h_ a b=true then a+b else 0)),.d (dI (if h_ a b=true then 0 else 3))]):=by
 unfold aC at ha hb;obtain⟨c,hc⟩:∃c,IntKind.i64.wrap (a+b)=c:=⟨_,rfl⟩
 have hc2:(c=a+b\/c=a+b-18446744073709551616\/c=a+b+18446744073709551616)/\ -9223372036854775808<=c/\c<=9223372036854775807:=by
  rw[<-hc,IntKind.wrap_i64];omega
 have hbad:(¬ -9223372036854775807<=a\/¬ -9223372036854775807<=b\/¬ -9223372036854775807<=c\/(0<a/\0<b/\c<0)\/(a<0/\b<0/\0<=c))↔h_ a b=false:=by
  unfold h_;rw[decide_eq_false_iff_not];omega
 have hgood:h_ a b=true->c=a+b:=λh=>by
  unfold h_ at h;rw[decide_eq_true_iff] at h;omega
 have r1:=aX a;have r2:=aX b;have r3:=aX c;unfold aD at r1 r2 r3;refine ah.enter tabOk Tryz.func101 rfl (by show 2<=48;decide) ?_
 simp only[Tryz.f101];have H:=hc;iterate 2 refine zR ?_
 refine WpC.seq ?_;refine WpC.seq ?_;refine WpC.val 46 (.d (.bool (decide (¬ -9223372036854775807<=a\/¬ -9223372036854775807<=b\/¬ -9223372036854775807<=c\/(0<a/\0<b/\c<0)\/(a<0/\b<0/\0<=c))))) ?_ ?_
 ·refine WpC.region ?_;refine zO 1 ?_;refine zG a_ (r1) ?_;refine zO 2 ?_;refine zS 13 (λg13=>?_) (λg13=>?_)
  ·try(exfalso;revert g13;simp;done)
   all_goals
    have g13':=zN g13;replace H:=And.intro g13 H;iterate 2 refine zO 12 ?_
    refine zO 9 ?_;refine WpO.nil ?_;refine⟨rfl,Gh.only 46 38 ?_ (by first|rfl|simp -implicitDefEqProofs[H]) (by rfl)⟩
    all_goals(clear r1 r2 r3 hbad hgood hc2 hc;first|(simp_all;done)|(simp_all;omega)|omega)
  ·try(exfalso;revert g13;simp;done)
   all_goals
    have g13':=zN g13;replace H:=And.intro g13 H;refine zO 1 ?_;refine zG a_ (r2) ?_;refine zO 3 ?_;refine zS 18 (λg18=>?_) (λg18=>?_)
    ·try(exfalso;revert g18;simp;done)
     all_goals
      have g18':=zN g18;replace H:=And.intro g18 H;iterate 2 refine zO 12 ?_
      refine zO 4 ?_;refine WpO.nil ?_;refine⟨rfl,Gh.only 46 39 ?_ (by first|rfl|simp -implicitDefEqProofs[H]) (by rfl)⟩
      all_goals(clear r1 r2 r3 hbad hgood hc2 hc;first|(simp_all;done)|(simp_all;omega)|omega)
    ·try(exfalso;revert g18;simp;done)
     all_goals
      have g18':=zN g18;replace H:=And.intro g18 H;refine zO 1 ?_;refine zG a_ (r3) ?_;refine zO 3 ?_;refine zS 23 (λg23=>?_) (λg23=>?_)
      ·try(exfalso;revert g23;simp;done)
       all_goals
        have g23':=zN g23;replace H:=And.intro g23 H;refine zO 12 ?_;refine zO 11 ?_;refine WpO.nil ?_;refine⟨rfl,Gh.only 46 40 ?_ (by first|rfl|simp -implicitDefEqProofs[H]) (by rfl)⟩
        all_goals(clear r1 r2 r3 hbad hgood hc2 hc;first|(simp_all;done)|(simp_all;omega)|omega)
      ·try(exfalso;revert g23;simp;done)
       all_goals
        have g23':=zN g23;replace H:=And.intro g23 H;refine zO 3 ?_;refine zS 26 (λg26=>?_) (λg26=>?_)
        ·try(exfalso;revert g26;simp;done)
         all_goals
          have g26':=zN g26;replace H:=And.intro g26 H;refine zO 4 ?_;refine zS 30 (λg30=>?_) (λg30=>?_)
          ·try(exfalso;revert g30;simp;done)
           all_goals
            have g30':=zN g30;replace H:=And.intro g30 H;refine zO 5 ?_;refine zS 35 (λg35=>?_) (λg35=>?_)
            ·try(exfalso;revert g35;simp;done)
             all_goals
              have g35':=zN g35;replace H:=And.intro g35 H;refine zO 11 ?_;refine WpO.nil ?_;refine⟨rfl,Gh.only 46 43 ?_ (by first|rfl|simp -implicitDefEqProofs[H]) (by rfl)⟩
              all_goals(clear r1 r2 r3 hbad hgood hc2 hc;first|(simp_all;done)|(simp_all;omega)|omega)
            ·try(exfalso;revert g35;simp;done)
             all_goals
              have g35':=zN g35;replace H:=And.intro g35 H;refine zO 3 ?_;refine zS 38 (λg38=>?_) (λg38=>?_)
              ·try(exfalso;revert g38;simp;done)
               all_goals
                have g38':=zN g38;replace H:=And.intro g38 H;refine zO 4 ?_;refine zS 42 (λg42=>?_) (λg42=>?_)
                ·try(exfalso;revert g42;simp;done)
                 all_goals
                  have g42':=zN g42;replace H:=And.intro g42 H;refine zO 4 ?_;refine WpO.nil ?_;refine⟨rfl,Gh.only 46 45 ?_ (by first|rfl|simp -implicitDefEqProofs[H]) (by rfl)⟩
                  all_goals(clear r1 r2 r3 hbad hgood hc2 hc;first|(simp_all;done)|(simp_all;omega)|omega)
                ·try(exfalso;revert g42;simp;done)
                 all_goals
                  have g42':=zN g42;replace H:=And.intro g42 H;refine zO 4 ?_;refine WpO.nil ?_;refine⟨rfl,Gh.only 46 45 ?_ (by first|rfl|simp -implicitDefEqProofs[H]) (by rfl)⟩
                  all_goals(clear r1 r2 r3 hbad hgood hc2 hc;first|(simp_all;done)|(simp_all;omega)|omega)
              ·try(exfalso;revert g38;simp;done)
               all_goals
                have g38':=zN g38;replace H:=And.intro g38 H;refine zO 8 ?_;refine WpO.nil ?_;refine⟨rfl,Gh.only 46 44 ?_ (by first|rfl|simp -implicitDefEqProofs[H]) (by rfl)⟩
                all_goals(clear r1 r2 r3 hbad hgood hc2 hc;first|(simp_all;done)|(simp_all;omega)|omega)
          ·try(exfalso;revert g30;simp;done)
           all_goals
            have g30':=zN g30;replace H:=And.intro g30 H;refine zO 8 ?_;refine zS 38 (λg38=>?_) (λg38=>?_)
            ·try(exfalso;revert g38;simp;done)
             all_goals
              have g38':=zN g38;replace H:=And.intro g38 H;refine zO 4 ?_;refine zS 42 (λg42=>?_) (λg42=>?_)
              ·try(exfalso;revert g42;simp;done)
               all_goals
                have g42':=zN g42;replace H:=And.intro g42 H;refine zO 4 ?_;refine WpO.nil ?_;refine⟨rfl,Gh.only 46 44 ?_ (by first|rfl|simp -implicitDefEqProofs[H]) (by rfl)⟩
                all_goals(clear r1 r2 r3 hbad hgood hc2 hc;first|(simp_all;done)|(simp_all;omega)|omega)
              ·try(exfalso;revert g42;simp;done)
               all_goals
                have g42':=zN g42;replace H:=And.intro g42 H;refine zO 4 ?_;refine WpO.nil ?_;refine⟨rfl,Gh.only 46 44 ?_ (by first|rfl|simp -implicitDefEqProofs[H]) (by rfl)⟩
                all_goals(clear r1 r2 r3 hbad hgood hc2 hc;first|(simp_all;done)|(simp_all;omega)|omega)
            ·try(exfalso;revert g38;simp;done)
             all_goals
              have g38':=zN g38;replace H:=And.intro g38 H;refine zO 8 ?_;refine WpO.nil ?_;refine⟨rfl,Gh.only 46 43 ?_ (by first|rfl|simp -implicitDefEqProofs[H]) (by rfl)⟩
              all_goals(clear r1 r2 r3 hbad hgood hc2 hc;first|(simp_all;done)|(simp_all;omega)|omega)
        ·try(exfalso;revert g26;simp;done)
         all_goals
          have g26':=zN g26;replace H:=And.intro g26 H;refine zO 12 ?_;refine zS 38 (λg38=>?_) (λg38=>?_)
          ·try(exfalso;revert g38;simp;done)
           all_goals
            have g38':=zN g38;replace H:=And.intro g38 H;refine zO 4 ?_;refine zS 42 (λg42=>?_) (λg42=>?_)
            ·try(exfalso;revert g42;simp;done)
             all_goals
              have g42':=zN g42;replace H:=And.intro g42 H;refine zO 4 ?_;refine WpO.nil ?_;refine⟨rfl,Gh.only 46 43 ?_ (by first|rfl|simp -implicitDefEqProofs[H]) (by rfl)⟩
              all_goals(clear r1 r2 r3 hbad hgood hc2 hc;first|(simp_all;done)|(simp_all;omega)|omega)
            ·try(exfalso;revert g42;simp;done)
             all_goals
              have g42':=zN g42;replace H:=And.intro g42 H;refine zO 4 ?_;refine WpO.nil ?_;refine⟨rfl,Gh.only 46 43 ?_ (by first|rfl|simp -implicitDefEqProofs[H]) (by rfl)⟩
              all_goals(clear r1 r2 r3 hbad hgood hc2 hc;first|(simp_all;done)|(simp_all;omega)|omega)
          ·try(exfalso;revert g38;simp;done)
           all_goals
            have g38':=zN g38;replace H:=And.intro g38 H;refine zO 8 ?_;refine WpO.nil ?_;refine⟨rfl,Gh.only 46 42 ?_ (by first|rfl|simp -implicitDefEqProofs[H]) (by rfl)⟩
            all_goals(clear r1 r2 r3 hbad hgood hc2 hc;first|(simp_all;done)|(simp_all;omega)|omega)
 refine zD (¬ -9223372036854775807<=a\/¬ -9223372036854775807<=b\/¬ -9223372036854775807<=c\/(0<a/\0<b/\c<0)\/(a<0/\b<0/\0<=c)) (λd46=>?_) (λd46=>?_)
 ·replace H:=And.intro d46 H;refine zR ?_;refine WpC.ret ?_;try simp only[aa,aj]
  refine zE ?_;simp[hbad.1 d46]
 replace H:=And.intro d46 H;refine WpC.skip ?_;refine zR ?_;refine WpC.ret ?_;try simp only[aa,aj]
 refine zE ?_;have hg:h_ a b=true:=by cases h:h_ a b with|true=>rfl|false=>exact absurd (hbad.2 h) d46
 simp[hg,hgood hg]
theorem pL {l:List Int} {k:Nat} (h:k<l.length):(l.take (k+1)).sum=(l.take k).sum+l[k]:=by
 rw[List.take_add_one,List.getElem?_eq_getElem h];simp only[Option.toList_some,List.sum_append,List.sum_cons,List.sum_nil];omega
theorem cX:∀ {l:List Int},(∀x∈l,0<=x)->0<=l.sum
 |[],_=>by simp
 |x::l,h=>by
  have h1:=h x (by simp)
  have h2:=cX (l:=l) λy hy=>h y (by simp[hy])
  rw[List.sum_cons];omega
theorem kE {l:List Int} (h:∀x∈l,0<=x) (k:Nat):(l.take k).sum<=l.sum:=by
 have e:l.sum=(l.take k).sum+(l.drop k).sum:=by rw[<-List.sum_append,List.take_append_drop]
 have:=cX (l:=l.drop k) λx hx=>h x (List.mem_of_mem_drop hx)
 omega
def oB (l:List Int):Bool:=decide (l.sum<=9223372036854775807)
theorem AA (l:List Int) (h:∀x∈l,inN x) (hl:l.length<=1000000):ah Tryz.prog 79 [.d (.list 1 (l.map dI))] (.tup [.d (dI (if oB l=true then l.sum else 0)),.d (dI (if oB l=true then 0 else 3))]):=by
 have h0:∀x∈l,0<=x:=λx hx=>(h x hx).1
 refine ah.enter tabOk Tryz.func79 rfl (by show 1<=27;decide) ?_
 simp only[Tryz.f79];have H:=trivial;iterate 2 refine zR ?_
 refine WpC.seq ?_;refine zR ?_;refine WpC.block ?_;refine WpC.loopK [9,10] [4,11] (l.length) (():Unit) (λk _=>[(4,.d (dI (l.take k).sum)),(11,.d (.int .i64 k))]) (λk _=>[]) (λk _=>(l.take k).sum<=9223372036854775807) (by simp -implicitDefEqProofs[H]<;>rfl) (Gh.cut' [4,11,9,10] 0 (by simp -implicitDefEqProofs[H]) (by simp -implicitDefEqProofs[H]) rfl (by simp) (by simp) (by simp)) (by simp) ?_
 rintro k ⟨⟩ hk hi;simp only[List.cons_append,List.nil_append];refine zR ?_;refine WpC.seq (zL (k<l.length) (λhlt=>?_) (λhge=>?_))
 ·refine WpC.skip ?_;have hst:=pL hlt;obtain⟨x,hx⟩:∃x,l[k]=x:=⟨_,rfl⟩
  have hxn:=h x (hx▸List.getElem_mem hlt);have hw:IntKind.i64.wrap ((k:Int)+1)=k+1:=am (by omega) (by omega)
  have hs0:=cX (l:=l.take k) λy hy=>h0 y (List.mem_of_mem_take hy)
  obtain⟨s,hs⟩:∃s,(l.take k).sum=s:=⟨_,rfl⟩
  rw[hs,hx] at hst;rw[hs] at hs0 hi;unfold inN at hxn;have ha:=py s x (by unfold aC;omega) (by unfold aC;omega)
  obtain⟨ab,hab⟩:∃b,h_ s x=b:=⟨_,rfl⟩
  have hab2:ab=decide (s+x<=9223372036854775807):=by rw[<-hab];unfold h_;congr 1;exact propext ⟨λq=>by omega,λq=>by omega⟩
  rw[hab] at ha;replace H:=And.intro hlt (And.intro hx (And.intro hw (And.intro hs H)));refine WpC.seq ?_;refine WpC.block ?_;refine zR ?_;refine WpC.seq ?_;refine WpC.region ?_;refine zO 2 ?_;refine zG mL (ha) ?_;refine zO 5 ?_;refine WpO.nil ?_;refine WpC.seq ?_;refine zR ?_;refine zC (λc22=>?_) (λc22=>?_)
  ·have c22':=zN c22;replace H:=And.intro c22 H;refine zR ?_;refine WpC.ret ?_;try simp only[aa,aj]
   refine zE ?_;have habf:ab=false:=by simpa using c22
   have hbig:¬(l.take (k+1)).sum<=9223372036854775807:=by rw[hst];rw[hab2] at habf;simpa using habf
   have:=kE h0 (k+1);have hsb:oB l=false:=decide_eq_false (by omega)
   simp[hsb,habf]
  have c22':=zN c22;have habt:ab=true:=by simpa using c22
  replace H:=And.intro c22 (And.intro habt H);refine WpC.skip ?_;iterate 2 refine zr ?_
  exact⟨hlt,(),by rw[hst];simp at c22;rw[hab2] at c22;simpa using c22,Gh.cut' [4,11,9,10] 0 (by simp -implicitDefEqProofs[H,c22',hst]) (by simp) rfl (by simp) (by simp) (by simp)⟩
 refine WpC.exit ?_;have hkn:k=l.length:=by omega
 subst hkn;rw[List.take_of_length_le (Nat.le_refl _)] at hi;refine zR ?_;refine WpC.ret ?_;try simp only[aa,aj]
 refine zE ?_;have hsb:oB l=true:=decide_eq_true hi;simp[hsb]
theorem Fu (w:Int):ah Tryz.prog 78 [.d (dI w)] (.d (.bool (decide (w<0)))):=by
 refine ah.enter tabOk Tryz.func78 rfl (by show 1<=5;decide) ?_
 simp only[Tryz.f78];have H:=trivial;iterate 2 refine zR ?_
 refine WpC.ret ?_;try simp only[aa,aj]
 refine zE ?_;simp -implicitDefEqProofs[H]
theorem cF {α:Type} (f:α->Bool) {l:List α} {k:Nat} (h:k<l.length) (h0:(l.take k).any f=false) (h1:f l[k]=true):l.findIdx? f=some k:=by
 rw[List.findIdx?_eq_some_iff_getElem];refine⟨h,h1,λj hj=>?_⟩
 rw[List.any_eq_false] at h0;refine h0 _ ?_;rw[List.mem_take_iff_getElem];exact⟨j,by omega,rfl⟩
def bZ {α:Type} (f:α->Bool) (l:List α):Int:=match l.findIdx? f with|some i=>i|none=> -1
theorem uS (l:List Int) (hl:l.length<=1000000000):ah Tryz.prog 96 [.d (.list 1 (l.map dI)),.fn 78 []] (.d (dI (bZ (λw=>decide (w<0)) l))):=by
 obtain⟨f,hf⟩:∃f:Int->Bool,(λx:Int=>decide (x<0))=f:=⟨_,rfl⟩
 have hff:∀x:Int,decide (x<0)=f x:=λx=>by rw[<-hf]
 rw[hf];refine ah.enter tabOk Tryz.func96 rfl (by show 2<=19;decide) ?_
 simp only[Tryz.f96];have H:=trivial;refine zR ?_;refine WpC.seq ?_;refine zR ?_;refine WpC.block ?_;refine WpC.loopK [0,1,7] [8] (l.length) (():Unit) (λk _=>[(8,.d (.int .i64 k))]) (λk _=>[]) (λk _=>(l.take k).any f=false) (by simp -implicitDefEqProofs[H]<;>rfl) (Gh.cut' [8,0,1,7] 0 (by simp -implicitDefEqProofs[H]) (by simp -implicitDefEqProofs[H]) rfl (by simp) (by simp) (by simp)) (by simp) ?_
 rintro k ⟨⟩ hk hi;simp only[List.cons_append,List.nil_append];refine zR ?_;refine WpC.seq (zL (k<l.length) (λhlt=>?_) (λhge=>?_))
 ·refine WpC.skip ?_;have hst:=cf f hlt;obtain⟨x,hx⟩:∃x,l[k]=x:=⟨_,rfl⟩
  have hw:IntKind.i64.wrap ((k:Int)+1)=k+1:=am (by omega) (by omega)
  have hfi:=cF f hlt hi;rw[hi,hx] at hst;rw[hx] at hfi;replace H:=And.intro hlt (And.intro hx (And.intro hw H));refine WpC.seq ?_;refine WpC.block ?_;refine zR ?_;refine WpC.seq ?_;refine WpC.region ?_;refine zO 5 ?_;refine zG Cf (Fu x) ?_;refine WpO.nil ?_;refine zC (λc16=>?_) (λc16=>?_)
  ·have c16':=zN c16;replace H:=And.intro c16 H;refine zR ?_;refine WpC.ret ?_;try simp only[aa,aj]
   refine zE ?_;have:=hfi (by rw[<-hff];simpa using c16)
   simp[bZ,this]
  have c16':=zN c16;replace H:=And.intro c16 H;refine WpC.skip ?_;refine zr ?_;exact⟨hlt,(),by rw[hst,<-hff];simpa using c16,Gh.cut' [8,0,1,7] 0 (by simp -implicitDefEqProofs[H,c16']) (by simp) rfl (by simp) (by simp) (by simp)⟩
 refine WpC.exit ?_;have hkn:k=l.length:=by omega
 subst hkn;rw[List.take_of_length_le (Nat.le_refl _)] at hi;refine zR ?_;refine WpC.ret ?_;try simp only[aa,aj]
 refine zE ?_;have:l.findIdx? f=none:=by rw[List.findIdx?_eq_none_iff];simpa using hi
 simp[bZ,this]
theorem dS {α:Type} (f:α->Bool) (l:List α):decide (0<=bZ f l)=l.any f:=by
 unfold bZ;cases h:l.findIdx? f with
 |none=>rw[List.findIdx?_eq_none_iff] at h;symm;simpa using h
 |some i=>
  rw[List.findIdx?_eq_some_iff_getElem] at h;obtain⟨h1,h2,_⟩:=h;have:l.any f=true:=by rw[List.any_eq_true];exact⟨_,List.getElem_mem h1,h2⟩
  simp[this]
theorem pd (l:List Int) (hl:l.length<=1000000000):ah Tryz.prog 69 [.d (.list 1 (l.map dI)),.fn 78 []] (.d (.bool (l.any λw=>decide (w<0)))):=by
 refine ah.enter tabOk Tryz.func69 rfl (by show 2<=9;decide) ?_
 simp only[Tryz.f69];have H:=trivial;refine zR ?_;refine WpC.seq ?_;refine WpC.region ?_;refine zO 2 ?_;refine zG ph (uS l hl) ?_;refine zO 2 ?_;refine WpO.nil ?_;refine WpC.ret ?_;try simp only[aa,aj]
 refine zE ?_;simp[<-dS]
def jV (P:Program) (f:FuncId) (args:List FV) (e k:Nat) (xs:List D):Prop:=WpF P f args [] λr S=>r= .sl 0 xs.length/\S=[.arr e k xs]
def cO (K:List Nat) (b:Bool):Nat->List Ob->List Ob
 |_,[]=>[]
 |i,o::r=>(if decide (i∈K)=b then o else .gone)::cO K b (i+1) r
theorem fM {K:List Nat} {b:Bool}:∀ {i:Nat} {S:List Ob} {j:Nat},(cO K b i S)[j]?=(S[j]?).map λo=>if decide (i+j∈K)=b then o else .gone
 |i,[],j=>by simp[cO]
 |i,o::r,0=>by simp[cO]
 |i,o::r,j+1=>by
  simp only[cO,List.getElem?_cons_succ];rw[fM,show i+1+j=i+(j+1) from by omega]
theorem kn {K:List Nat} {b:Bool}:∀ {i:Nat} {S:List Ob},(cO K b i S).length=S.length
 |_,[]=>rfl
 |i,o::r=>by simp[cO,kn]
section
variable {w:World} {I:Nat->Prop} {L:List Lay} {s:St} {a:Act}
theorem mb (l:Lay):own .gone l=[]:=by cases l<;>rfl
theorem fL {K:List Nat} {b:Bool} {S:List Ob} {x:Nat} (h:x∈aB (cO K b 0 S) L):∃(j:Nat) (o:Ob) (l:Lay),S[j]?=some o/\L[j]?=some l/\x∈own o l/\decide (j∈K)=b:=by
 obtain⟨j,c,l,h1,h2,h3⟩:=aZ h;rw[fM,Nat.zero_add,Option.map_eq_some_iff] at h1;obtain⟨o,ho,rfl⟩:=h1;by_cases hb:decide (j∈K)=b
 ·rw[if_pos hb] at h3;exact⟨j,o,l,ho,h2,h3,hb⟩
 ·rw[if_neg hb,mb] at h3;simp at h3
theorem mh (hs:SR w I L s a) (K:List Nat) (b:Bool):(aB (cO K b 0 s.S) L).Nodup:=by
 refine cY λj j' c c' l l' hne h1 h2 h3 h4 x hx hx'=>?_
 rw[fM,Nat.zero_add,Option.map_eq_some_iff] at h1 h3;obtain⟨o,ho,rfl⟩:=h1;obtain⟨o',ho',rfl⟩:=h3;by_cases hb:decide (j∈K)=b
 ·rw[if_pos hb] at hx;by_cases hb':decide (j'∈K)=b
  ·rw[if_pos hb'] at hx';exact aR hs.nodup ho h2 ho' h4 hne x hx hx'
  ·rw[if_neg hb',mb] at hx';simp at hx'
 ·rw[if_neg hb,mb] at hx;simp at hx
theorem Gh.frzO (K:List Nat) (ups:List (Nat×FV)) (hu:∀p∈ups,∃x,get s.env p.1=some x/\aK true (cO K true 0 s.S) x=some p.2):Gh s {s with env:=ups++s.env,S:=cO K false 0 s.S}:=λw I L a hs=>by
 have hs1:SR w I L {s with S:=cO K true 0 s.S} a:=by
  refine⟨hs.env,hs.nt,by show L.length=(cO K true 0 s.S).length;rw[kn];exact hs.len,λi ob l h1 h2=>?_,mh hs K true,λx hx=>?_,hs.imm,hs.defers⟩
  ·have h1':(cO K true 0 s.S)[i]?=some ob:=h1;rw[fM,Option.map_eq_some_iff] at h1';obtain⟨o,ho,rfl⟩:=h1';split
   ·exact hs.obs i o l ho h2
   ·trivial
  ·obtain⟨j,o,l,h1,h2,h3,_⟩:=fL hx;exact hs.sep x (aw h1 h2 x h3)
 have hI:∀b,I b->gd I (cO K true 0 s.S) L b:=λb hb=> .inl hb
 refine⟨gd I (cO K true 0 s.S) L,L,⟨λt x hx=>?_,hs.nt,?_,λi ob l h1 h2=>?_,mh hs K false,λx hx=>?_,hs.imm.more hI λb hb=>?_,hs.defers⟩,⟨⟨rfl,rfl,rfl,Nat.le_refl _,λ_ _ _=>rfl,hI,λb hb=>?_,λb hb=> .inl ?_⟩,rfl,λ_ _=>rfl⟩⟩
 ·have key:∀(us:List (Nat×FV)),(∀p∈us,∃x,get s.env p.1=some x/\aK true (cO K true 0 s.S) x=some p.2)->get (us++s.env) t=some x->ai w (gd I (cO K true 0 s.S) L) L x (a.tmps.getD t undef):=by
   intro us;induction us with
   |nil=>intro _ h;exact ai.mono (λ_ _=>rfl) hI (λ_ _ h=>h) _ _ (hs.env t x h)
   |cons p us ih=>
    intro hp h;obtain⟨k,y⟩:=p;simp only[List.cons_append,get] at h;by_cases hk:k=t
    ·rw[if_pos hk] at h;cases h;subst hk;obtain⟨z,hz,hv⟩:=hp _ List.mem_cons_self;exact lI hs1 L (hs.env _ z hz) hv
    ·rw[if_neg hk] at h;exact ih (λq hq=>hp q (List.mem_cons_of_mem _ hq)) h
  exact key ups hu hx
 ·have:=hs.len;simpa[kn] using this
 ·have h1':(cO K false 0 s.S)[i]?=some ob:=h1;rw[fM,Option.map_eq_some_iff] at h1';obtain⟨o,ho,rfl⟩:=h1';split
  ·exact b7.mono (λ_ _=>rfl) hI (λ_ _ h=>h) (λ_ _=>rfl) (hs.obs i o l ho h2)
  ·trivial
 ·obtain⟨j,o,l,h1,h2,h3,hj⟩:=fL hx;have hsx:=hs.sep x (aw h1 h2 x h3);refine⟨λq=>?_,hsx.2⟩
  rcases q with q|q
  ·exact hsx.1 q
  ·obtain⟨j',o',l',g1,g2,g3,hj'⟩:=fL q;have hne:j≠j':=λe=>by rw[e,hj'] at hj;cases hj
   exact aR hs.nodup h1 h2 g1 g2 hne x h3 g3
 ·rcases hb with hb|hb
  ·exact hs.imm b hb
  ·obtain⟨j,o,l,h1,h2,h3,_⟩:=fL hb;exact(hs.sep b (aw h1 h2 b h3)).2
 ·rcases hb with hb|hb
  ·exact .inl hb
  ·obtain⟨j,o,l,h1,h2,h3,_⟩:=fL hb;exact .inr (.inl (aw h1 h2 b h3))
 ·obtain⟨j,o,l,h1,h2,h3,_⟩:=fL hb;exact aw h1 h2 b h3
end
theorem kl:∀(m:Nat) (l:List Nat),l.Nodup->(∀x∈l,x<m)->l.length<=m
 |0,l,_,h=>by
  cases l with
  |nil=>simp
  |cons x l=>have:=h x (by simp);omega
 |m+1,l,hn,h=>by
  by_cases hm:m∈l
  ·have h1:=kl m (l.erase m) (hn.erase m) λx hx=>by
    have:=(List.Nodup.mem_erase_iff hn).1 hx;have:=h x this.2;omega
   rw[List.length_erase_of_mem hm] at h1;omega
  ·have h1:=kl m l hn λx hx=>by
    have:=h x hx;have:x≠m:=λe=>hm (e▸hx)
    omega
   omega
theorem Hf {n:Nat} {f:Nat->Nat} (h1:∀i,i<n->f i<n) (h2:∀i j,i<n->j<n->f i=f j->i=j):((List.range n).map f).Perm (List.range n):=by
 have hnd:((List.range n).map f).Nodup:=by
  rw[List.nodup_iff_pairwise_ne,List.pairwise_map];refine(List.nodup_iff_pairwise_ne.1 List.nodup_range).imp_of_mem λ{a b} ha hb hab he=>hab (h2 a b (by simpa using ha) (by simpa using hb) he)
 have hlt:∀x∈(List.range n).map f,x<n:=λx hx=>by
  obtain⟨i,hi,rfl⟩:=List.mem_map.1 hx;exact h1 i (by simpa using hi)
 rw[List.perm_ext_iff_of_nodup hnd List.nodup_range];intro a;constructor
 ·intro ha;simpa using hlt a ha
 ·intro ha;have han:a<n:=by simpa using ha
  apply Classical.byContradiction;intro hno;have:=kl n (a::(List.range n).map f) (List.nodup_cons.2 ⟨hno,hnd⟩) λx hx=>by
   rcases List.mem_cons.1 hx with rfl|hx
   ·exact han
   ·exact hlt x hx
  simp at this;omega
theorem oc (n p:Nat) (h:p<=n):(List.range n).countP (λq=>decide (q<p))=p:=by
 induction n generalizing p with
 |zero=>simp;omega
 |succ n ih=>
  rw[List.range_succ,List.countP_append];by_cases hp:p<=n
  ·rw[ih p hp];simp;omega
  ·have:p=n+1:=by omega
   subst this;have:(List.range n).countP (λq=>decide (q<n+1))=(List.range n).length:=by
    rw[List.countP_eq_length];intro a ha;have:=List.mem_range.1 ha;simp;omega
   rw[this];simp
theorem mB (p:Nat):∀l,(List.range l).countP (λq=>q==p)=if p<l then 1 else 0
 |0=>by simp
 |l+1=>by
  rw[List.range_succ,List.countP_append,mB p l];by_cases h1:p<l
  ·have:¬l=p:=by omega
   rw[if_pos h1,if_pos (by omega)];simp[this]
  ·by_cases h2:l=p
   ·subst h2;simp
   ·rw[if_neg h1,if_neg (by omega)];simp[h2]
section
variable {c:Int->Int->Int} {n:Nat} {h:Nat->Int}
def ahead (c:Int->Int->Int) (n:Nat) (i:Int):Nat:=(List.range n).countP λ(j:Nat)=>decide (c (j:Int) i<0)
theorem G8 (hc:Cmp c (okS n)) (m:Mv 0 n (λi=>(i:Int)) h) (s:bz c h 0 n):(∀p,p<n->0<=h p/\h p<n)/\(∀p q,p<n->q<n->h p=h q->p=q)/\(∀p,p<n->ahead c n (h p)=p)/\∀i,i<n->∃p,p<n/\h p=(i:Int):=by
 have hin:∀p,p<n->0<=h p/\h p<n:=λp hp=>by
  obtain⟨j,_,j2,e⟩:=m.src p (by omega) hp
  rw[e];omega
 have hinj:∀p q,p<n->q<n->h p=h q->p=q:=λp q hp hq e=>m.inj (λi j _ _ _ _ e=>by omega) p q (by omega) hp (by omega) hq e
 have hperm:=Hf (n:=n) (f:=λp=>(h p).toNat) (λi hi=>by have:=hin i hi;omega) (λi j hi hj e=>hinj i j hi hj (by have:=hin i hi;have:=hin j hj;omega))
 have hlt:∀p q,p<n->q<n->(c (h p) (h q)<0↔p<q):=λp q hp hq=>by
  have op:okS n (h p):=hin p hp;have oq:okS n (h q):=hin q hq;constructor
  ·intro hl;rcases Nat.lt_trichotomy p q with h1|h1|h1
   ·exact h1
   ·subst h1;exact absurd hl (hc.asym _ _ op oq hl)
   ·exact absurd hl (s q p (by omega) h1 hp)
  ·intro hpq;rcases hc.tot (h p) (h q) op oq (λe=>by have:=hinj p q hp hq e;omega) with h1|h1
   ·exact h1
   ·exact absurd h1 (s p q (by omega) hpq hq)
 refine⟨hin,hinj,λp hp=>?_,λi hi=>?_⟩
 ·unfold ahead;rw[<-hperm.countP_eq,List.countP_map];rw[show(List.range n).countP ((λj:Nat=>decide (c (j:Int) (h p)<0))∘λq=>(h q).toNat)=(List.range n).countP λq=>decide (q<p) from List.countP_congr λq hq=>by
   have hqn:q<n:=List.mem_range.1 hq;have e:((h q).toNat:Int)=h q:=by have:=hin q hqn;omega
   simp only[Function.comp,e,decide_eq_true_eq];exact hlt q p hqn hp]
  exact oc n p (by omega)
 ·have:=(hperm.mem_iff (a:=i)).2 (List.mem_range.2 hi);obtain⟨p,hp,e⟩:=List.mem_map.1 this;have hpn:p<n:=List.mem_range.1 hp;exact⟨p,hpn,by have:=hin p hpn;omega⟩
def iB (pf:Nat->Int) (h:Nat->Int) (k:Nat):Nat->Int:=λi=>pf i+((List.range k).countP λp=>decide (h p=(i:Int)):Nat)
theorem uT (pf:Nat->Int) {h:Nat->Int} {k:Nat} (hk:0<=h k):upd (iB pf h k) (h k).toNat (iB pf h k (h k).toNat+1)=iB pf h (k+1):=by
 funext i
 unfold upd iB;rw[List.range_succ,List.countP_append];by_cases e:i=(h k).toNat
 ·rw[if_pos e,<-e];have:h k=(i:Int):=by omega
  simp[this];omega
 ·rw[if_neg e];have:¬h k=(i:Int):=by omega
  simp[this]
theorem xm (pf:Nat->Int) (hc:Cmp c (okS n)) (m:Mv 0 n (λi=>(i:Int)) h) (s:bz c h 0 n) {l:Nat} (hl:l<=n) {i:Nat} (hi:i<n):iB pf h l i=pf i+if ahead c n i<l then 1 else 0:=by
 obtain⟨hin,hinj,hr,hs⟩:=G8 hc m s;obtain⟨p,hp,hpi⟩:=hs i hi;unfold iB;rw[<-hpi,hr p hp];congr 1
 have:(List.range l).countP (λq=>decide (h q=h p))=(List.range l).countP λq=>q==p:=List.countP_congr λq hq=>by
  have hql:q<l:=List.mem_range.1 hq;simp only[decide_eq_true_eq,beq_iff_eq];exact⟨λe=>hinj q p (by omega) hp e,λe=>by rw[e]⟩
 rw[this,mB];split<;>rfl
end
section
variable {P:Program} {T:Nat->Option TI} {s s':St} {all:Array Oper} {o:Oper} {rest:List Oper} {Q:Exit->St->Prop}
theorem WpO.nilSl (hT:aP P T) {t ty:TypeId} {k e id n e':Nat} {xs:List D} {x:Operand} {i:TI} (hw:bh all s o=some true) (ho:o.op= .binOp .eql t x (.const (.slice none 0 0)) ty) (hi:T t=some i) (hk:i.kind= .slice e) (hx:evX s x=some (.sl id n)) (hS:s.S[id]?=some (.arr e' k xs)) (hn:n<=xs.length)
 (h:∀b:Bool,(b=true->xs.take n=[])->∃s1,aY s o.dst (.d (.bool b))=some s1/\WpO P all rest s1 Q):WpO P all (o::rest) s Q:=λw I L a hs=>by
 have ht:=(hT _ _ hi).kind;rw[hk] at ht;simp only[bx] at ht;have hv:=mS hs hS hn (hs.evX hx);simp only[ar] at hv;obtain⟨base,c,hv,hle,hd⟩:=hv;obtain⟨s1,hset,hk'⟩:=h base.isNone (λhb=>by
  rcases hd with hd|⟨b,off,vs,hd,_⟩
  ·exact hd
  ·subst hd;cases hb)
 unfold wpList;rw[if_pos (hs.want hw)];refine .inl ?_;have hrun:(execOp a.eval o).run P w= .ok (.value (.bool base.isNone)) w:=by
  unfold execOp;have hc:a.eval (Operand.const (.slice none 0 0))= .slice none 0 0:=rfl;simp only[ho,hv,hc,eqGuard_at_slice,Sem.run_bind,Sem.run_pure,Result.andThen_ok,m6 ht]
 unfold Oper.wp;rw[hrun];obtain⟨e1,e2,e3⟩:=hs.put (v:= .bool base.isNone) (by simp only[ai,ar]) hset
 have:=hk' w I L _ e1;refine bN (λe a' w' p=>p.from ⟨?_,e3,λ_ _=>rfl⟩) _ _ _ this
 rw[e2];exact Evo.refl _ _ _
end
theorem qO (xs:List D) (n:Nat) (hn:xs.length=n) (hl:n<=1000000000):WpF Tryz.prog 81 [.sl 0 n] [.arr 3 1 xs] λr S=>r= .sl 1 n/\S=[.arr 3 1 xs,.arr 3 1 xs]:=by
 have hsm:n<=8589934592:=by omega
 refine WpF.enter tabOk Tryz.func81 rfl (by show 1<=8;decide) ?_
 simp only[Tryz.f81];have H:=And.intro hn hsm;refine zR ?_;refine WpC.seq ?_;refine WpC.seq ?_;refine WpC.region ?_;refine WpO.run tabOk 1 (by simp<;>first|exact⟨rfl,rfl⟩|rfl) ?_
 refine WpO.nilSl (id:=0) (n:=n) (k:=1) (xs:=xs) (e':=3) tabOk (by simp) rfl (by simp;rfl) rfl (by simp) (by simp) (by omega) λb hb=>⟨_,by simp;rfl,WpO.nil ?_⟩
 refine zC (λc4=>?_) (λc4=>?_)
 ·have c4':=zN c4;replace H:=And.intro c4 H;refine zR ?_;have h0:=hb c4;rw[List.take_of_length_le (by omega)] at h0
  subst h0;simp at hn;subst hn;refine WpC.gh (Gh.nilArr 3 1 (t:=2) (by simp) (by simp)) ?_
  refine WpC.ret ?_;simp
 have c4':=zN c4;replace H:=And.intro c4 H;refine WpC.skip ?_;refine zR ?_;refine WpC.gh (Gh.pick [2] [0,2] (by simp;rfl) (env':=[(2,.sl 1 n)]) (by simp) (by simp) (by simp) (by simp;rfl) (S':=[.arr 3 1 xs,.arr 3 1 xs]) (by simp[hn]) (by simp)) (WpC.ret ?_)
 simp
end Go.Proofs.YtlhmejigmokbhaaGreatDoor.Pay
