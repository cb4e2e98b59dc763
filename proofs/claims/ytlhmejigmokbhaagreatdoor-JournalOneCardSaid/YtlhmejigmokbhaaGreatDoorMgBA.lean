/- The texts TrB, one behind the other. No statement of the seed is proved here. -/
import Derived.Test.YtlhmejigmokbhaaGreatDoorMgZ
namespace Go.Proofs.YtlhmejigmokbhaaGreatDoor.Pay
open Go Go.RowKit
set_option linter.unusedVariables false
set_option linter.unusedSimpArgs false
def inW (ws:List (List UInt8)) (s:List UInt8):Bool:=ws.any λw=>s==w
theorem uR (ws:List (List UInt8)) (s:List UInt8) (hl:ws.length<=1000000000):ah Tryz.prog 61 [.d (.list 1 (ws.map .str)),.d (.str s)] (.d (dI (bZ (λw=>s==w) ws))):=by
 obtain⟨f,hf⟩:∃f:List UInt8->Bool,(λw=>s==w)=f:=⟨_,rfl⟩
 have hff:∀x:List UInt8,(s==x)=f x:=λx=>by rw[<-hf]
 rw[hf];refine ah.enter tabOk Tryz.func61 rfl (by show 2<=19;decide) ?_
 simp only[Tryz.f61];have H:=trivial;refine zR ?_;refine WpC.seq ?_;refine zR ?_;refine WpC.block ?_;refine WpC.loopK [0,1,7] [8] (ws.length) (():Unit) (λk _=>[(8,.d (.int .i64 k))]) (λk _=>[]) (λk _=>(ws.take k).any f=false) (by simp -implicitDefEqProofs[H]<;>rfl) (Gh.cut' [8,0,1,7] 0 (by simp -implicitDefEqProofs[H]) (by simp -implicitDefEqProofs[H]) rfl (by simp) (by simp) (by simp)) (by simp) ?_
 rintro k ⟨⟩ hk hi;simp only[List.cons_append,List.nil_append];refine zR ?_;refine WpC.seq (zL (k<ws.length) (λhlt=>?_) (λhge=>?_))
 ·refine WpC.skip ?_;have hst:=cf f hlt;obtain⟨x,hx⟩:∃x,ws[k]=x:=⟨_,rfl⟩
  have hw:IntKind.i64.wrap ((k:Int)+1)=k+1:=am (by omega) (by omega)
  have hfi:=cF f hlt hi;rw[hi,hx] at hst;rw[hx] at hfi;have hck:=hff x;obtain⟨b,hb⟩:∃b,(s==x)=b:=⟨_,rfl⟩
  rw[hb] at hck;replace H:=And.intro hlt (And.intro hx (And.intro hw (And.intro hb H)));refine WpC.seq ?_;refine WpC.block ?_;iterate 2 refine zR ?_
  refine zC (λc16=>?_) (λc16=>?_)
  ·have c16':=zN c16;replace H:=And.intro c16 H;refine zR ?_;refine WpC.ret ?_;try simp only[aa,aj]
   refine zE ?_;have:=hfi (by rw[<-hck];simpa using c16)
   simp[bZ,this]
  have c16':=zN c16;replace H:=And.intro c16 H;refine WpC.skip ?_;refine zr ?_;exact⟨hlt,(),by rw[hst,<-hck];simpa using c16,Gh.cut' [8,0,1,7] 0 (by simp -implicitDefEqProofs[H,c16']) (by simp) rfl (by simp) (by simp) (by simp)⟩
 refine WpC.exit ?_;have hkn:k=ws.length:=by omega
 subst hkn;rw[List.take_of_length_le (Nat.le_refl _)] at hi;refine zR ?_;refine WpC.ret ?_;try simp only[aa,aj]
 refine zE ?_;have:ws.findIdx? f=none:=by rw[List.findIdx?_eq_none_iff];simpa using hi
 simp[bZ,this]
theorem mD (ws:List (List UInt8)) (s:List UInt8) (hl:ws.length<=1000000000):ah Tryz.prog 34 [.d (.list 1 (ws.map .str)),.d (.str s)] (.d (.bool (inW ws s))):=by
 have hi:=uR ws s hl;unfold inW;obtain⟨f,hf⟩:∃f:List UInt8->Bool,(λw=>s==w)=f:=⟨_,rfl⟩
 rw[hf] at hi ⊢;refine ah.enter tabOk Tryz.func34 rfl (by show 2<=9;decide) ?_
 simp only[Tryz.f34];have H:=trivial;refine zR ?_;refine WpC.seq ?_;refine WpC.region ?_;refine zO 2 ?_;refine zG Cp (hi) ?_;refine zO 2 ?_;refine WpO.nil ?_;refine WpC.ret ?_;try simp only[aa,aj]
 refine zE ?_;simp[<-dS]
def aV (toks:List Tok) (en:Nat) (st:Ps):Tok:=toks.getD st.pos ⟨0,[],en⟩
theorem gy (toks:List Tok) (en:Nat) (st:Ps) (hn:toks.length<=500000000):WpF Tryz.prog 33 [.ref 0 0] (S0 toks en st) λr S=>r= .d (aV toks en st).enc/\S=S2 toks en st:=by
 refine aW (by rfl) ?_
 by_cases h:st.pos<toks.length
 ·obtain⟨t,ht⟩:∃t,toks[st.pos]=t:=⟨_,rfl⟩
  have htk:aV toks en st=t:=by simp[aV,List.getD,h,ht]
  have hI:(st.pos:Int)<toks.length:=by omega
  rw[htk];refine WpF.enter tabOk Tryz.func33 rfl (by show 1<=28;decide) ?_
  simp only[Tryz.f33];have H:=And.intro h (And.intro ht hI);refine zR ?_;refine WpC.seq ?_;refine WpC.seq (WpC.drawn tabOk (by kernel_rfl) 0 (by simp) ?_)
  iterate 3 refine yO 3 ?_
  refine yO 1 ?_;refine DrO.nil ⟨by kernel_rfl,?_⟩
  refine zT ?_;refine WpC.seq (WpC.drawn tabOk (by kernel_rfl) 0 (by simp) ?_)
  iterate 3 refine yO 3 ?_
  refine yO 2 ?_;refine DrO.nil ⟨by kernel_rfl,?_⟩
  refine WpC.ret ?_;refine⟨.inr rfl,_,by simp -implicitDefEqProofs<;>rfl,⟨by simp,1,2,by omega,by omega,by omega,by simp,by simp,by simp⟩,by simp⟩
 ·have htk:aV toks en st=⟨0,[],en⟩:=by simp[aV,List.getD,h]
  have hI:¬(st.pos:Int)<toks.length:=by omega
  rw[htk];refine WpF.enter tabOk Tryz.func33 rfl (by show 1<=28;decide) ?_
  simp only[Tryz.f33];have H:=And.intro h hI;refine zR ?_;refine WpC.seq ?_;refine WpC.seq (WpC.drawn tabOk (by kernel_rfl) 0 (by simp) ?_)
  iterate 3 refine yO 3 ?_
  refine yO 1 ?_;refine DrO.nil ⟨by kernel_rfl,?_⟩
  refine zF ?_;refine WpC.skip ?_;refine zR ?_;refine WpC.ret ?_;refine⟨.inr rfl,_,by simp -implicitDefEqProofs<;>rfl,⟨by simp,1,2,by omega,by omega,by omega,by simp,by simp,by simp⟩,by simp⟩
def bD (toks:List Tok) (en:Nat) (e:Int) (st:Ps):Ps:=if st.err=0 then⟨st.pos,st.rules,st.exprs,e,(aV toks en st).pos⟩ else st
theorem fY (toks:List Tok) (en:Nat) (st:Ps) (e:Int) (hn:toks.length<=500000000):WpF Tryz.prog 36 [.ref 0 0,.d (dI e)] (S0 toks en st) λr S=>r= .tup []/\S=S2 toks en (bD toks en e st):=by
 have htk:=gy toks en st hn;refine aW (by rfl) ?_
 by_cases h:st.err=0
 ·obtain⟨p,hp⟩:∃p,aV toks en st=p:=⟨_,rfl⟩
  have hf:bD toks en e st=⟨st.pos,st.rules,st.exprs,e,p.pos⟩:=by rw[bD,if_pos h,hp]
  rw[hp] at htk;rw[hf];refine WpF.enter tabOk Tryz.func36 rfl (by show 2<=19;decide) ?_
  simp only[Tryz.f36];have H:=h;refine zR ?_;refine zT ?_;refine WpC.region ?_;refine zO 4 ?_;refine zP [0,1,2] bX (htk) ?_;refine zO 7 ?_;refine WpO.nil ?_;refine⟨.inl rfl,_,by simp -implicitDefEqProofs<;>rfl,⟨by simp,3,4,by omega,by omega,by omega,by simp,by simp,by simp⟩,by simp⟩
 ·have hf:bD toks en e st=st:=by rw[bD,if_neg h]
  rw[hf];refine WpF.enter tabOk Tryz.func36 rfl (by show 2<=19;decide) ?_
  simp only[Tryz.f36];have H:=h;refine zR ?_;refine zF ?_;refine WpC.skip ?_;refine⟨.inl rfl,_,by simp -implicitDefEqProofs<;>rfl,⟨by simp,1,2,by omega,by omega,by omega,by simp,by simp,by simp⟩,by simp⟩
def bW (ws:List (List UInt8)) (toks:List Tok) (en:Nat) (st:Ps):Bool:=decide (st.err=0)&&(decide ((aV toks en st).kind=1)||decide ((aV toks en st).kind=5))&&inW ws (aV toks en st).text
def ac (st:Ps):Ps:=⟨st.pos+1,st.rules,st.exprs,st.err,st.place⟩
def pJ (ws:List (List UInt8)) (toks:List Tok) (en:Nat) (st:Ps):Ps:=if bW ws toks en st=true then ac st else st
def rE (ws:List (List UInt8)) (toks:List Tok) (en:Nat) (st:Ps):List UInt8:=if bW ws toks en st=true then(aV toks en st).text else []
set_option maxHeartbeats 2000000 in
theorem i_ (ws:List (List UInt8)) (toks:List Tok) (en:Nat) (st:Ps) (hn:toks.length<=500000000) (hp:st.pos<=500000000) (hw:ws.length<=1000):WpF Tryz.prog 37 [.ref 0 0,.d (.list 1 (ws.map .str))] (S0 toks en st)
 λr S=>r= .tup [.d (.str (rE ws toks en st)),.d (.bool (bW ws toks en st))]/\S=S2 toks en (pJ ws toks en st):=by
 have htk:=gy toks en st hn;have hcn:=mD ws (aV toks en st).text (by omega)
 refine aW (by rfl) ?_
 have htb:bW ws toks en st=(decide (st.err=0)&&(decide ((aV toks en st).kind=1)||decide ((aV toks en st).kind=5))&&inW ws (aV toks en st).text):=rfl;obtain⟨b,hb⟩:∃b,bW ws toks en st=b:=⟨_,rfl⟩
 have hT:rE ws toks en st=if b=true then(aV toks en st).text else []:=by rw[rE,hb]
 have hS:pJ ws toks en st=if b=true then ac st else st:=by rw[pJ,hb]
 rw[hT,hS,hb];rw[hb] at htb;obtain⟨p,hpp⟩:∃p,aV toks en st=p:=⟨_,rfl⟩
 rw[hpp] at htk hcn htb ⊢;obtain⟨d,hd⟩:∃d,inW ws p.text=d:=⟨_,rfl⟩
 rw[hd] at hcn htb;have hw1:IntKind.i64.wrap ((st.pos:Int)+1)=st.pos+1:=am (by omega) (by omega)
 cases b with
 |true=>
  have h1:=htb.symm;simp only[Bool.and_eq_true,Bool.or_eq_true,decide_eq_true_eq] at h1;obtain⟨⟨he,hk⟩,rfl⟩:=h1;rw[if_pos rfl,if_pos rfl];refine WpF.enter tabOk Tryz.func37 rfl (by show 2<=40;decide) ?_
  simp only[Tryz.f37];have H:=And.intro he hw1;refine zR ?_;refine WpC.seq ?_;refine WpC.region ?_;refine zO 1 ?_;refine zP [0,1,2] bX (htk) ?_;refine zO 2 ?_;refine WpO.nil ?_;refine WpC.seq ?_;refine WpC.seq ?_;refine WpC.val 30 (.d (.bool (false))) ?_ ?_
  ·refine WpC.region ?_;refine zO 6 ?_;refine zS 14 (λg14=>?_) (λg14=>?_)
   ·try(exfalso;revert g14;simp;done)
    all_goals
     have g14':=zN g14;replace H:=And.intro g14 H;refine zO 12 ?_;refine zO 4 ?_;refine WpO.nil ?_;refine⟨rfl,Gh.only 30 23 ?_ (by first|rfl|simp -implicitDefEqProofs[H]) (by rfl)⟩
     simp -implicitDefEqProofs[H,g14']<;>omega
   ·try(exfalso;revert g14;simp;done)
    all_goals
     have g14':=zN g14;replace H:=And.intro g14 H;refine zO 4 ?_;refine zS 18 (λg18=>?_) (λg18=>?_)
     ·try(exfalso;revert g18;simp;done)
      all_goals
       have g18':=zN g18;replace H:=And.intro g18 H;refine zO 6 ?_;refine zS 24 (λg24=>?_) (λg24=>?_)
       ·try(exfalso;revert g24;simp;done)
        all_goals
         have g24':=zN g24;replace H:=And.intro g24 H;refine zO 6 ?_;refine WpO.nil ?_;refine⟨rfl,Gh.only 30 25 ?_ (by first|rfl|simp -implicitDefEqProofs[H]) (by rfl)⟩
         simp -implicitDefEqProofs[H,g14',g18',g24']<;>omega
       ·try(exfalso;revert g24;simp;done)
        all_goals
         have g24':=zN g24;replace H:=And.intro g24 H;refine zO 3 ?_;refine zG dv (hcn) ?_;refine zO 2 ?_;refine WpO.nil ?_;refine⟨rfl,Gh.only 30 25 ?_ (by first|rfl|simp -implicitDefEqProofs[H]) (by rfl)⟩
         simp -implicitDefEqProofs[H,g14',g18',g24']<;>omega
     ·try(exfalso;revert g18;simp;done)
      all_goals
       have g18':=zN g18;replace H:=And.intro g18 H;refine zO 9 ?_;refine zG dv (hcn) ?_;refine zO 2 ?_;refine WpO.nil ?_;refine⟨rfl,Gh.only 30 24 ?_ (by first|rfl|simp -implicitDefEqProofs[H]) (by rfl)⟩
       simp -implicitDefEqProofs[H,g14',g18']<;>omega
  refine zF ?_;refine WpC.skip ?_;iterate 2 refine zR ?_
  refine WpC.ret ?_;refine⟨.inr rfl,_,by simp -implicitDefEqProofs<;>rfl,⟨by simp,3,4,by omega,by omega,by omega,by simp[ac,he],by simp[ac],by simp[ac]⟩,by simp⟩
 |false=>
  rw[if_neg (by simp),if_neg (by simp)]
  cases d with
  |false=>
   refine WpF.enter tabOk Tryz.func37 rfl (by show 2<=40;decide) ?_
   simp only[Tryz.f37];have H:=trivial;refine zR ?_;refine WpC.seq ?_;refine WpC.region ?_;refine zO 1 ?_;refine zP [0,1,2] bX (htk) ?_;refine zO 2 ?_;refine WpO.nil ?_;refine WpC.seq ?_;refine WpC.seq ?_;refine WpC.val 30 (.d (.bool (true))) ?_ ?_
   ·refine WpC.region ?_;refine zO 6 ?_;refine zS 14 (λg14=>?_) (λg14=>?_)
    ·have g14':=zN g14;replace H:=And.intro g14 H;refine zO 12 ?_;refine zO 4 ?_;refine WpO.nil ?_;refine⟨rfl,Gh.only 30 23 ?_ (by first|rfl|simp -implicitDefEqProofs[H]) (by rfl)⟩
     simp -implicitDefEqProofs[H,g14']
    have g14':=zN g14;replace H:=And.intro g14 H;refine zO 4 ?_;refine zS 18 (λg18=>?_) (λg18=>?_)
    ·have g18':=zN g18;replace H:=And.intro g18 H;refine zO 6 ?_;refine zS 24 (λg24=>?_) (λg24=>?_)
     ·have g24':=zN g24;replace H:=And.intro g24 H;refine zO 6 ?_;refine WpO.nil ?_;refine⟨rfl,Gh.only 30 25 ?_ (by first|rfl|simp -implicitDefEqProofs[H]) (by rfl)⟩
      simp -implicitDefEqProofs[H,g14',g18',g24']
     have g24':=zN g24;replace H:=And.intro g24 H;refine zO 3 ?_;refine zG dv (hcn) ?_;refine zO 2 ?_;refine WpO.nil ?_;refine⟨rfl,Gh.only 30 25 ?_ (by first|rfl|simp -implicitDefEqProofs[H]) (by rfl)⟩
     simp -implicitDefEqProofs[H,g14',g18',g24']
    have g18':=zN g18;replace H:=And.intro g18 H;refine zO 9 ?_;refine zG dv (hcn) ?_;refine zO 2 ?_;refine WpO.nil ?_;refine⟨rfl,Gh.only 30 24 ?_ (by first|rfl|simp -implicitDefEqProofs[H]) (by rfl)⟩
    simp -implicitDefEqProofs[H,g14',g18']
   refine zT ?_;refine zR ?_;refine WpC.ret ?_;refine⟨.inr rfl,_,by simp -implicitDefEqProofs<;>rfl,⟨by simp,3,4,by omega,by omega,by omega,by simp,by simp,by simp⟩,by simp⟩
  |true=>
   have h1:¬(st.err=0/\(p.kind=1\/p.kind=5)):=by simpa using htb
   refine WpF.enter tabOk Tryz.func37 rfl (by show 2<=40;decide) ?_
   simp only[Tryz.f37];have H:=trivial;refine zR ?_;refine WpC.seq ?_;refine WpC.region ?_;refine zO 1 ?_;refine zP [0,1,2] bX (htk) ?_;refine zO 2 ?_;refine WpO.nil ?_;refine WpC.seq ?_;refine WpC.seq ?_;refine WpC.val 30 (.d (.bool (true))) ?_ ?_
   ·refine WpC.region ?_;refine zO 6 ?_;refine zS 14 (λg14=>?_) (λg14=>?_)
    ·have g14':=zN g14;replace H:=And.intro g14 H;refine zO 12 ?_;refine zO 4 ?_;refine WpO.nil ?_;refine⟨rfl,Gh.only 30 23 ?_ (by first|rfl|simp -implicitDefEqProofs[H]) (by rfl)⟩
     simp -implicitDefEqProofs[H,g14']<;>omega
    have g14':=zN g14;replace H:=And.intro g14 H;refine zO 4 ?_;refine zS 18 (λg18=>?_) (λg18=>?_)
    ·have g18':=zN g18;replace H:=And.intro g18 H;refine zO 6 ?_;refine zS 24 (λg24=>?_) (λg24=>?_)
     ·have g24':=zN g24;replace H:=And.intro g24 H;refine zO 6 ?_;refine WpO.nil ?_;refine⟨rfl,Gh.only 30 25 ?_ (by first|rfl|simp -implicitDefEqProofs[H]) (by rfl)⟩
      simp -implicitDefEqProofs[H,g14',g18',g24']<;>omega
     have g24':=zN g24;replace H:=And.intro g24 H;refine zO 3 ?_;refine zG dv (hcn) ?_;refine zO 2 ?_;refine WpO.nil ?_;refine⟨rfl,Gh.only 30 25 ?_ (by first|rfl|simp -implicitDefEqProofs[H]) (by rfl)⟩
     simp -implicitDefEqProofs[H,g14',g18',g24']<;>omega
    have g18':=zN g18;replace H:=And.intro g18 H;refine zO 9 ?_;refine zG dv (hcn) ?_;refine zO 2 ?_;refine WpO.nil ?_;refine⟨rfl,Gh.only 30 24 ?_ (by first|rfl|simp -implicitDefEqProofs[H]) (by rfl)⟩
    simp -implicitDefEqProofs[H,g14',g18']<;>omega
   refine zT ?_;refine zR ?_;refine WpC.ret ?_;refine⟨.inr rfl,_,by simp -implicitDefEqProofs<;>rfl,⟨by simp,3,4,by omega,by omega,by omega,by simp,by simp,by simp⟩,by simp⟩
def aG (s:List UInt8) (toks:List Tok) (en:Nat) (st:Ps):Ps:=if bW [s] toks en st=true then ac st else bD toks en 2 st
theorem Bn (s:List UInt8) (toks:List Tok) (en:Nat) (st:Ps) (hn:toks.length<=500000000) (hp:st.pos<=500000000):WpF Tryz.prog 39 [.ref 0 0,.d (.str s)] (S0 toks en st)
 λr S=>r= .tup []/\S=S2 toks en (aG s toks en st):=by
 have ht:=i_ [s] toks en st hn hp (by simp)
 simp only[List.map_cons,List.map_nil] at ht;have hf:=fY toks en st 2 hn;refine aW (by rfl) ?_
 have hT:rE [s] toks en st=if bW [s] toks en st=true then(aV toks en st).text else []:=rfl
 have hS:pJ [s] toks en st=if bW [s] toks en st=true then ac st else st:=rfl
 have hN:aG s toks en st=if bW [s] toks en st=true then ac st else bD toks en 2 st:=rfl
 obtain⟨b,hb⟩:∃b,bW [s] toks en st=b:=⟨_,rfl⟩
 rw[hb] at hT hS hN ht;rw[hN];rw[hT,hS] at ht;cases b with
 |true=>
  rw[if_pos rfl,if_pos rfl] at ht;rw[if_pos rfl];refine WpF.enter tabOk Tryz.func39 rfl (by show 2<=17;decide) ?_
  simp only[Tryz.f39];have H:=trivial;refine WpC.seq ?_;refine WpC.region ?_;refine zO 3 ?_;refine WpO.gh (Gh.frz [3]) ?_;refine zP [0,1,2] bk (ht) ?_;refine zO 5 ?_;refine WpO.nil ?_;refine zR ?_;refine zF ?_;refine WpC.skip ?_;refine⟨.inl rfl,_,by simp -implicitDefEqProofs<;>rfl,⟨by simp,4,5,by omega,by omega,by omega,by simp[ac],by simp[ac],by simp[ac]⟩,by simp⟩
 |false=>
  rw[if_neg (by simp),if_neg (by simp)] at ht
  rw[if_neg (by simp)]
  refine WpF.enter tabOk Tryz.func39 rfl (by show 2<=17;decide) ?_
  simp only[Tryz.f39];have H:=trivial;refine WpC.seq ?_;refine WpC.region ?_;refine zO 3 ?_;refine WpO.gh (Gh.frz [3]) ?_;refine zP [0,1,2] bk (ht) ?_;refine zO 5 ?_;refine WpO.nil ?_;refine zR ?_;refine zT ?_;refine WpC.region ?_;refine zO 1 ?_;refine zP [0,4,5] ff (hf) ?_;refine WpO.nil ?_;refine⟨.inl rfl,_,by simp -implicitDefEqProofs<;>rfl,⟨by simp,6,7,by omega,by omega,by omega,by simp,by simp,by simp⟩,by simp⟩
def cu (e:Ex) (st:Ps):Ps:=⟨st.pos,st.rules,st.exprs++[e],st.err,st.place⟩
theorem oI (e:Ex) (toks:List Tok) (en:Nat) (st:Ps) (hx:st.exprs.length<=500000000):WpF Tryz.prog 62 [.ref 0 0,.d e.enc] (S0 toks en st)
 λr S=>r= .d (dI st.exprs.length)/\S=S2 toks en (cu e st):=by
 refine aW (by rfl) ?_
 have hk:st.exprs.length<=8589934591:=by omega
 have hw1:IntKind.i64.wrap ((st.exprs.length:Int)+1-1)=st.exprs.length:=by rw[am (by omega) (by omega)];omega
 have hw2:IntKind.i64.wrap (st.exprs.length:Int)=st.exprs.length:=am (by omega) (by omega)
 refine WpF.enter tabOk Tryz.func62 rfl (by show 2<=24;decide) ?_
 simp only[Tryz.f62];have H:=And.intro hk (And.intro hw1 hw2);refine zR ?_;refine WpC.seq (WpC.drawn tabOk (by kernel_rfl) 2 (by simp) ?_)
 iterate 4 refine yO 3 ?_
 refine yO 1 ?_;refine DrO.nil ⟨by kernel_rfl,?_⟩
 refine zR ?_;refine WpC.ret ?_;refine⟨.inr rfl,_,by simp -implicitDefEqProofs<;>rfl,⟨by simp,1,5,by omega,by omega,by omega,by simp[cu],by simp[cu],by simp[cu]⟩,by simp⟩
end Go.Proofs.YtlhmejigmokbhaaGreatDoor.Pay
