/- The texts TrC, one behind the other. No statement of the seed is proved here. -/
import Derived.Test.YtlhmejigmokbhaaGreatDoorMgBA
namespace Go.Proofs.YtlhmejigmokbhaaGreatDoor.Pay
open Go Go.RowKit
set_option linter.unusedVariables false
set_option linter.unusedSimpArgs false
def ko:List (List UInt8):=[[101,97,114,110],[112,114,101,116,97,120],[112,111,115,116],[108,101,116]]
def y3:List (List UInt8):=[[101,97,114,110],[112,114,101,116,97,120],[112,111,115,116],[108,101,116],[105,102],[116,104,101,110],[101,108,115,101],[109,105,110],[109,97,120]]
theorem xc:jV Tryz.prog 35 [] 9 1 [.str [101,97,114,110],.str [112,114,101,116,97,120],.str [112,111,115,116],.str [108,101,116]]:=by
 refine WpF.enter tabOk Tryz.func35 rfl (by show 0<=2;decide) ?_
 simp only[Tryz.f35];have H:=trivial;iterate 2 refine zR ?_
 refine WpC.ret ?_;refine⟨.inr rfl,_,by simp -implicitDefEqProofs<;>rfl,⟨by simp,by simp⟩,by simp⟩
def me (s:List UInt8):Bool:=!inW y3 s
theorem sZ (s:List UInt8):ah Tryz.prog 38 [.d (.str s)] (.d (.bool (me s))):=by
 have hc:=mD y3 s (by decide)
 simp only[y3,List.map_cons,List.map_nil] at hc;unfold me;simp only[y3];obtain⟨b,hb⟩:∃b,inW [[101,97,114,110],[112,114,101,116,97,120],[112,111,115,116],[108,101,116],[105,102],[116,104,101,110],[101,108,115,101],[109,105,110],[109,97,120]] s=b:=⟨_,rfl⟩
 rw[hb] at hc ⊢;refine ah.enter tabOk Tryz.func38 rfl (by show 1<=9;decide) ?_
 simp only[Tryz.f38];have H:=trivial;refine zR ?_;refine WpC.seq ?_;refine WpC.region ?_;refine zP [] fg (xc) ?_;refine zO 3 ?_;refine zB dv (hc) ?_;refine zO 2 ?_;refine WpO.nil ?_;refine WpC.ret ?_;try simp only[aa,aj]
 refine zE ?_;simp -implicitDefEqProofs[H]
def nR (t:Tok):Option Ex:=
 if t.kind=2 then some ⟨[119,104,111,108,101],[],(eH t.text).1,0,0,0⟩
 else if t.kind=3 then some ⟨[97,109,111,117,110,116],[],(iM t.text).1,0,0,0⟩
 else if t.kind=4 then some ⟨[114,97,116,101],[],(m7 t.text).1,0,0,0⟩
 else if t.kind=1 then(if me t.text=true then some ⟨[110,97,109,101],t.text,0,0,0,0⟩ else none)
 else none
def gf (toks:List Tok) (en:Nat) (st:Ps):Ps×Int:=match nR (aV toks en st) with
 |some e=>(cu e (ac st),st.exprs.length)
 |none=>(bD toks en 2 st,0)
set_option maxHeartbeats 4000000 in
theorem Bv (toks:List Tok) (en:Nat) (st:Ps) (hn:toks.length<=500000000) (hp:st.pos<=500000000) (hx:st.exprs.length<=500000000) (htx:(aV toks en st).text.length<=500000000):
 WpF Tryz.prog 157 [.ref 0 0] (S0 toks en st) λr S=>r= .d (dI (gf toks en st).2)/\S=S2 toks en (gf toks en st).1:=by
 have htk:=gy toks en st hn;have hf:=fY toks en st 2 hn;have ha:=tZ (aV toks en st).text (by omega)
 have hm:=oK (aV toks en st).text htx;have hr:=sQ (aV toks en st).text htx;have hnb:=sZ (aV toks en st).text;have hput:∀e:Ex,WpF Tryz.prog 62 [.ref 0 0,.d e.enc] (S0 toks en (ac st)) λr S=>r= .d (dI st.exprs.length)/\S=S2 toks en (cu e (ac st)):=λe=>oI e toks en (ac st) hx
 have hw1:IntKind.i64.wrap ((st.pos:Int)+1)=st.pos+1:=am (by omega) (by omega)
 unfold gf;obtain⟨t,ht⟩:∃t,aV toks en st=t:=⟨_,rfl⟩
 rw[ht] at htk ha hm hr hnb ⊢;obtain⟨⟨v,b⟩,e1⟩:∃p,eH t.text=p:=⟨_,rfl⟩
 rw[e1] at ha;have k0:nR t=if t.kind=2 then some ⟨[119,104,111,108,101],[],v,0,0,0⟩ else if t.kind=3 then some ⟨[97,109,111,117,110,116],[],(iM t.text).1,0,0,0⟩ else if t.kind=4 then some ⟨[114,97,116,101],[],(m7 t.text).1,0,0,0⟩ else if t.kind=1 then(if me t.text=true then some ⟨[110,97,109,101],t.text,0,0,0,0⟩ else none) else none:=by
  rw[nR,e1]
 by_cases h2:t.kind=2
 ·rw[k0,if_pos h2];simp only;refine aW (by rfl) ?_
  have hpt:=hput ⟨[119,104,111,108,101],[],v,0,0,0⟩;refine WpF.enter tabOk Tryz.func157 rfl (by show 1<=77;decide) ?_
  simp only[Tryz.f157];have H:=And.intro h2 hw1;refine qR (by simp -implicitDefEqProofs[ac,H]<;>rfl) ?_
  refine WpC.seq ?_;refine WpC.region ?_;refine WpO.run tabOk 1 (by simp -implicitDefEqProofs[ac,H]<;>first|exact⟨rfl,rfl⟩|rfl) ?_
  refine WpO.callP [0,1,2] (by simp) rfl (by simp -implicitDefEqProofs[ac,H]<;>rfl) (by simp -implicitDefEqProofs[ac,H]<;>rfl) bX (by simp) (by simp) (by simp) (by simp -implicitDefEqProofs[ac,H]) (by simp;rfl) (by simp -implicitDefEqProofs[ac,H]) (htk) λr S1 hr=>?_
  obtain⟨rfl,rfl⟩:=hr;refine⟨_,by simp -implicitDefEqProofs[ac,H]<;>rfl,?_⟩
  refine WpO.run tabOk 2 (by simp -implicitDefEqProofs[ac,H]<;>first|exact⟨rfl,rfl⟩|rfl) ?_
  refine WpO.nil ?_;refine qR (by simp -implicitDefEqProofs[ac,H]<;>rfl) ?_
  refine WpC.seq ?_;refine qR (by simp -implicitDefEqProofs[ac,H]<;>rfl) ?_
  refine WpC.block ?_;refine qR (by simp -implicitDefEqProofs[ac,H]<;>rfl) ?_
  refine WpC.condT (by simp -implicitDefEqProofs[ac,H]<;>rfl) ?_
  refine WpC.seq ?_;refine WpC.region ?_;refine WpO.run tabOk 2 (by simp -implicitDefEqProofs[ac,H]<;>first|exact⟨rfl,rfl⟩|rfl) ?_
  refine WpO.data (by simp) rfl (by simp -implicitDefEqProofs[ac,H]<;>rfl) (by simp -implicitDefEqProofs[ac,H]<;>rfl) (by simp -implicitDefEqProofs[ac,H]<;>rfl) hM (by simp) (ha) (by rfl) (by simp -implicitDefEqProofs[ac,H]<;>rfl) ?_
  refine WpO.run tabOk 5 (by simp -implicitDefEqProofs[ac,H]<;>first|exact⟨rfl,rfl⟩|rfl) ?_
  refine WpO.nil ?_;refine qr (by simp -implicitDefEqProofs[ac,H]<;>rfl) ?_
  refine WpC.seq ?_;refine WpC.seq ?_;refine WpC.val 64 (.d (.bool (false))) ?_ ?_
  ·refine WpC.region ?_;refine WpO.run tabOk 4 (by simp -implicitDefEqProofs[ac,H]<;>first|exact⟨rfl,rfl⟩|rfl) ?_
   refine WpO.splitB 54 (by simp -implicitDefEqProofs[ac,H]<;>rfl) (by rfl) (λg54=>?_) (λg54=>?_)
   ·try(exfalso;revert g54;simp;done)
    all_goals
     have g54':=zN g54;replace H:=And.intro g54 H;refine WpO.run tabOk 10 (by simp -implicitDefEqProofs[ac,H]<;>first|exact⟨rfl,rfl⟩|rfl) ?_
     refine WpO.nil ?_;refine⟨rfl,Gh.only 64 15 ?_ (by first|rfl|simp -implicitDefEqProofs[ac,H]) (by rfl)⟩
     simp -implicitDefEqProofs[ac,H,g54']
   ·try(exfalso;revert g54;simp;done)
    all_goals
     have g54':=zN g54;replace H:=And.intro g54 H;refine WpO.run tabOk 4 (by simp -implicitDefEqProofs[ac,H]<;>first|exact⟨rfl,rfl⟩|rfl) ?_
     refine WpO.splitB 58 (by simp -implicitDefEqProofs[ac,H]<;>rfl) (by rfl) (λg58=>?_) (λg58=>?_)
     ·try(exfalso;revert g58;simp;done)
      all_goals
       have g58':=zN g58;replace H:=And.intro g58 H;refine WpO.run tabOk 2 (by simp -implicitDefEqProofs[ac,H]<;>first|exact⟨rfl,rfl⟩|rfl) ?_
       contradiction
       refine WpO.run tabOk 3 (by simp -implicitDefEqProofs[ac,H]<;>first|exact⟨rfl,rfl⟩|rfl) ?_
       refine WpO.nil ?_;refine⟨rfl,Gh.only 64 16 ?_ (by first|rfl|simp -implicitDefEqProofs[ac,H]) (by rfl)⟩
       simp -implicitDefEqProofs[ac,H,g54',g58']
     ·try(exfalso;revert g58;simp;done)
      all_goals
       have g58':=zN g58;replace H:=And.intro g58 H;refine WpO.run tabOk 6 (by simp -implicitDefEqProofs[ac,H]<;>first|exact⟨rfl,rfl⟩|rfl) ?_
       refine WpO.nil ?_;refine⟨rfl,Gh.only 64 16 ?_ (by first|rfl|simp -implicitDefEqProofs[ac,H]) (by rfl)⟩
       simp -implicitDefEqProofs[ac,H,g54',g58']
  refine WpC.condF (by simp -implicitDefEqProofs[ac,H]<;>rfl) ?_
  refine WpC.skip ?_;refine qR (by simp -implicitDefEqProofs[ac,H]<;>rfl) ?_
  refine WpC.seq ?_;refine WpC.region ?_;refine WpO.run tabOk 2 (by simp -implicitDefEqProofs[ac,H]<;>first|exact⟨rfl,rfl⟩|rfl) ?_
  refine WpO.callP [0,3,4] (by simp) rfl (by simp -implicitDefEqProofs[ac,H]<;>rfl) (by simp -implicitDefEqProofs[ac,H]<;>rfl) dL (by simp) (by simp) (by simp) (by simp -implicitDefEqProofs[ac,H]) (by simp;rfl) (by simp -implicitDefEqProofs[ac,H]) (hpt) λr S1 hr=>?_
  obtain⟨rfl,rfl⟩:=hr;refine⟨_,by simp -implicitDefEqProofs[ac,H]<;>rfl,?_⟩
  refine WpO.run tabOk 1 (by simp -implicitDefEqProofs[ac,H]<;>first|exact⟨rfl,rfl⟩|rfl) ?_
  refine WpO.nil ?_;refine WpC.ret ?_;refine⟨.inr rfl,_,by simp -implicitDefEqProofs<;>rfl,⟨by simp,7,8,by omega,by omega,by omega,by simp[ac],by simp[ac],by simp[ac]⟩,by simp⟩
 rw[if_neg h2] at k0;by_cases h3:t.kind=3
 ·rw[k0,if_pos h3];simp only;refine aW (by rfl) ?_
  have hpt:=hput ⟨[97,109,111,117,110,116],[],(iM t.text).1,0,0,0⟩;refine WpF.enter tabOk Tryz.func157 rfl (by show 1<=77;decide) ?_
  simp only[Tryz.f157];have H:=And.intro h3 hw1;refine qR (by simp -implicitDefEqProofs[ac,H]<;>rfl) ?_
  refine WpC.seq ?_;refine WpC.region ?_;refine WpO.run tabOk 1 (by simp -implicitDefEqProofs[ac,H]<;>first|exact⟨rfl,rfl⟩|rfl) ?_
  refine WpO.callP [0,1,2] (by simp) rfl (by simp -implicitDefEqProofs[ac,H]<;>rfl) (by simp -implicitDefEqProofs[ac,H]<;>rfl) bX (by simp) (by simp) (by simp) (by simp -implicitDefEqProofs[ac,H]) (by simp;rfl) (by simp -implicitDefEqProofs[ac,H]) (htk) λr S1 hr=>?_
  obtain⟨rfl,rfl⟩:=hr;refine⟨_,by simp -implicitDefEqProofs[ac,H]<;>rfl,?_⟩
  refine WpO.run tabOk 2 (by simp -implicitDefEqProofs[ac,H]<;>first|exact⟨rfl,rfl⟩|rfl) ?_
  refine WpO.nil ?_;refine qR (by simp -implicitDefEqProofs[ac,H]<;>rfl) ?_
  refine WpC.seq ?_;refine qR (by simp -implicitDefEqProofs[ac,H]<;>rfl) ?_
  refine WpC.block ?_;refine qR (by simp -implicitDefEqProofs[ac,H]<;>rfl) ?_
  refine WpC.condF (by simp -implicitDefEqProofs[ac,H]<;>rfl) ?_
  refine qR (by simp -implicitDefEqProofs[ac,H]<;>rfl) ?_
  refine WpC.condT (by simp -implicitDefEqProofs[ac,H]<;>rfl) ?_
  refine WpC.seq ?_;refine WpC.region ?_;refine WpO.run tabOk 2 (by simp -implicitDefEqProofs[ac,H]<;>first|exact⟨rfl,rfl⟩|rfl) ?_
  refine WpO.data (by simp) rfl (by simp -implicitDefEqProofs[ac,H]<;>rfl) (by simp -implicitDefEqProofs[ac,H]<;>rfl) (by simp -implicitDefEqProofs[ac,H]<;>rfl) iw (by simp) (hm) (by rfl) (by simp -implicitDefEqProofs[ac,H]<;>rfl) ?_
  refine WpO.run tabOk 5 (by simp -implicitDefEqProofs[ac,H]<;>first|exact⟨rfl,rfl⟩|rfl) ?_
  refine WpO.nil ?_;refine qr (by simp -implicitDefEqProofs[ac,H]<;>rfl) ?_
  refine WpC.seq ?_;refine WpC.seq ?_;refine WpC.val 64 (.d (.bool (false))) ?_ ?_
  ·refine WpC.region ?_;refine WpO.run tabOk 4 (by simp -implicitDefEqProofs[ac,H]<;>first|exact⟨rfl,rfl⟩|rfl) ?_
   refine WpO.splitB 54 (by simp -implicitDefEqProofs[ac,H]<;>rfl) (by rfl) (λg54=>?_) (λg54=>?_)
   ·try(exfalso;revert g54;simp;done)
    all_goals
     have g54':=zN g54;replace H:=And.intro g54 H;refine WpO.run tabOk 10 (by simp -implicitDefEqProofs[ac,H]<;>first|exact⟨rfl,rfl⟩|rfl) ?_
     refine WpO.nil ?_;refine⟨rfl,Gh.only 64 15 ?_ (by first|rfl|simp -implicitDefEqProofs[ac,H]) (by rfl)⟩
     simp -implicitDefEqProofs[ac,H,g54']
   ·try(exfalso;revert g54;simp;done)
    all_goals
     have g54':=zN g54;replace H:=And.intro g54 H;refine WpO.run tabOk 4 (by simp -implicitDefEqProofs[ac,H]<;>first|exact⟨rfl,rfl⟩|rfl) ?_
     refine WpO.splitB 58 (by simp -implicitDefEqProofs[ac,H]<;>rfl) (by rfl) (λg58=>?_) (λg58=>?_)
     ·try(exfalso;revert g58;simp;done)
      all_goals
       have g58':=zN g58;replace H:=And.intro g58 H;refine WpO.run tabOk 2 (by simp -implicitDefEqProofs[ac,H]<;>first|exact⟨rfl,rfl⟩|rfl) ?_
       contradiction
       refine WpO.run tabOk 3 (by simp -implicitDefEqProofs[ac,H]<;>first|exact⟨rfl,rfl⟩|rfl) ?_
       refine WpO.nil ?_;refine⟨rfl,Gh.only 64 16 ?_ (by first|rfl|simp -implicitDefEqProofs[ac,H]) (by rfl)⟩
       simp -implicitDefEqProofs[ac,H,g54',g58']
     ·try(exfalso;revert g58;simp;done)
      all_goals
       have g58':=zN g58;replace H:=And.intro g58 H;refine WpO.run tabOk 6 (by simp -implicitDefEqProofs[ac,H]<;>first|exact⟨rfl,rfl⟩|rfl) ?_
       refine WpO.nil ?_;refine⟨rfl,Gh.only 64 16 ?_ (by first|rfl|simp -implicitDefEqProofs[ac,H]) (by rfl)⟩
       simp -implicitDefEqProofs[ac,H,g54',g58']
  refine WpC.condF (by simp -implicitDefEqProofs[ac,H]<;>rfl) ?_
  refine WpC.skip ?_;refine qR (by simp -implicitDefEqProofs[ac,H]<;>rfl) ?_
  refine WpC.seq ?_;refine WpC.region ?_;refine WpO.run tabOk 2 (by simp -implicitDefEqProofs[ac,H]<;>first|exact⟨rfl,rfl⟩|rfl) ?_
  refine WpO.callP [0,3,4] (by simp) rfl (by simp -implicitDefEqProofs[ac,H]<;>rfl) (by simp -implicitDefEqProofs[ac,H]<;>rfl) dL (by simp) (by simp) (by simp) (by simp -implicitDefEqProofs[ac,H]) (by simp;rfl) (by simp -implicitDefEqProofs[ac,H]) (hpt) λr S1 hr=>?_
  obtain⟨rfl,rfl⟩:=hr;refine⟨_,by simp -implicitDefEqProofs[ac,H]<;>rfl,?_⟩
  refine WpO.run tabOk 1 (by simp -implicitDefEqProofs[ac,H]<;>first|exact⟨rfl,rfl⟩|rfl) ?_
  refine WpO.nil ?_;refine WpC.ret ?_;refine⟨.inr rfl,_,by simp -implicitDefEqProofs<;>rfl,⟨by simp,7,8,by omega,by omega,by omega,by simp[ac],by simp[ac],by simp[ac]⟩,by simp⟩
 rw[if_neg h3] at k0;by_cases h4:t.kind=4
 ·rw[k0,if_pos h4];simp only;refine aW (by rfl) ?_
  have hpt:=hput ⟨[114,97,116,101],[],(m7 t.text).1,0,0,0⟩;refine WpF.enter tabOk Tryz.func157 rfl (by show 1<=77;decide) ?_
  simp only[Tryz.f157];have H:=And.intro h4 hw1;refine qR (by simp -implicitDefEqProofs[ac,H]<;>rfl) ?_
  refine WpC.seq ?_;refine WpC.region ?_;refine WpO.run tabOk 1 (by simp -implicitDefEqProofs[ac,H]<;>first|exact⟨rfl,rfl⟩|rfl) ?_
  refine WpO.callP [0,1,2] (by simp) rfl (by simp -implicitDefEqProofs[ac,H]<;>rfl) (by simp -implicitDefEqProofs[ac,H]<;>rfl) bX (by simp) (by simp) (by simp) (by simp -implicitDefEqProofs[ac,H]) (by simp;rfl) (by simp -implicitDefEqProofs[ac,H]) (htk) λr S1 hr=>?_
  obtain⟨rfl,rfl⟩:=hr;refine⟨_,by simp -implicitDefEqProofs[ac,H]<;>rfl,?_⟩
  refine WpO.run tabOk 2 (by simp -implicitDefEqProofs[ac,H]<;>first|exact⟨rfl,rfl⟩|rfl) ?_
  refine WpO.nil ?_;refine qR (by simp -implicitDefEqProofs[ac,H]<;>rfl) ?_
  refine WpC.seq ?_;refine qR (by simp -implicitDefEqProofs[ac,H]<;>rfl) ?_
  refine WpC.block ?_;refine qR (by simp -implicitDefEqProofs[ac,H]<;>rfl) ?_
  refine WpC.condF (by simp -implicitDefEqProofs[ac,H]<;>rfl) ?_
  refine qR (by simp -implicitDefEqProofs[ac,H]<;>rfl) ?_
  refine WpC.condF (by simp -implicitDefEqProofs[ac,H]<;>rfl) ?_
  refine qR (by simp -implicitDefEqProofs[ac,H]<;>rfl) ?_
  refine WpC.condT (by simp -implicitDefEqProofs[ac,H]<;>rfl) ?_
  refine WpC.seq ?_;refine WpC.region ?_;refine WpO.run tabOk 2 (by simp -implicitDefEqProofs[ac,H]<;>first|exact⟨rfl,rfl⟩|rfl) ?_
  refine WpO.data (by simp) rfl (by simp -implicitDefEqProofs[ac,H]<;>rfl) (by simp -implicitDefEqProofs[ac,H]<;>rfl) (by simp -implicitDefEqProofs[ac,H]<;>rfl) tJ (by simp) (hr) (by rfl) (by simp -implicitDefEqProofs[ac,H]<;>rfl) ?_
  refine WpO.run tabOk 5 (by simp -implicitDefEqProofs[ac,H]<;>first|exact⟨rfl,rfl⟩|rfl) ?_
  refine WpO.nil ?_;refine qr (by simp -implicitDefEqProofs[ac,H]<;>rfl) ?_
  refine WpC.seq ?_;refine WpC.seq ?_;refine WpC.val 64 (.d (.bool (false))) ?_ ?_
  ·refine WpC.region ?_;refine WpO.run tabOk 4 (by simp -implicitDefEqProofs[ac,H]<;>first|exact⟨rfl,rfl⟩|rfl) ?_
   refine WpO.splitB 54 (by simp -implicitDefEqProofs[ac,H]<;>rfl) (by rfl) (λg54=>?_) (λg54=>?_)
   ·try(exfalso;revert g54;simp;done)
    all_goals
     have g54':=zN g54;replace H:=And.intro g54 H;refine WpO.run tabOk 10 (by simp -implicitDefEqProofs[ac,H]<;>first|exact⟨rfl,rfl⟩|rfl) ?_
     refine WpO.nil ?_;refine⟨rfl,Gh.only 64 15 ?_ (by first|rfl|simp -implicitDefEqProofs[ac,H]) (by rfl)⟩
     simp -implicitDefEqProofs[ac,H,g54']
   ·try(exfalso;revert g54;simp;done)
    all_goals
     have g54':=zN g54;replace H:=And.intro g54 H;refine WpO.run tabOk 4 (by simp -implicitDefEqProofs[ac,H]<;>first|exact⟨rfl,rfl⟩|rfl) ?_
     refine WpO.splitB 58 (by simp -implicitDefEqProofs[ac,H]<;>rfl) (by rfl) (λg58=>?_) (λg58=>?_)
     ·try(exfalso;revert g58;simp;done)
      all_goals
       have g58':=zN g58;replace H:=And.intro g58 H;refine WpO.run tabOk 2 (by simp -implicitDefEqProofs[ac,H]<;>first|exact⟨rfl,rfl⟩|rfl) ?_
       contradiction
       refine WpO.run tabOk 3 (by simp -implicitDefEqProofs[ac,H]<;>first|exact⟨rfl,rfl⟩|rfl) ?_
       refine WpO.nil ?_;refine⟨rfl,Gh.only 64 16 ?_ (by first|rfl|simp -implicitDefEqProofs[ac,H]) (by rfl)⟩
       simp -implicitDefEqProofs[ac,H,g54',g58']
     ·try(exfalso;revert g58;simp;done)
      all_goals
       have g58':=zN g58;replace H:=And.intro g58 H;refine WpO.run tabOk 6 (by simp -implicitDefEqProofs[ac,H]<;>first|exact⟨rfl,rfl⟩|rfl) ?_
       refine WpO.nil ?_;refine⟨rfl,Gh.only 64 16 ?_ (by first|rfl|simp -implicitDefEqProofs[ac,H]) (by rfl)⟩
       simp -implicitDefEqProofs[ac,H,g54',g58']
  refine WpC.condF (by simp -implicitDefEqProofs[ac,H]<;>rfl) ?_
  refine WpC.skip ?_;refine qR (by simp -implicitDefEqProofs[ac,H]<;>rfl) ?_
  refine WpC.seq ?_;refine WpC.region ?_;refine WpO.run tabOk 2 (by simp -implicitDefEqProofs[ac,H]<;>first|exact⟨rfl,rfl⟩|rfl) ?_
  refine WpO.callP [0,3,4] (by simp) rfl (by simp -implicitDefEqProofs[ac,H]<;>rfl) (by simp -implicitDefEqProofs[ac,H]<;>rfl) dL (by simp) (by simp) (by simp) (by simp -implicitDefEqProofs[ac,H]) (by simp;rfl) (by simp -implicitDefEqProofs[ac,H]) (hpt) λr S1 hr=>?_
  obtain⟨rfl,rfl⟩:=hr;refine⟨_,by simp -implicitDefEqProofs[ac,H]<;>rfl,?_⟩
  refine WpO.run tabOk 1 (by simp -implicitDefEqProofs[ac,H]<;>first|exact⟨rfl,rfl⟩|rfl) ?_
  refine WpO.nil ?_;refine WpC.ret ?_;refine⟨.inr rfl,_,by simp -implicitDefEqProofs<;>rfl,⟨by simp,7,8,by omega,by omega,by omega,by simp[ac],by simp[ac],by simp[ac]⟩,by simp⟩
 rw[if_neg h4] at k0;by_cases h1:t.kind=1
 ·rw[if_pos h1] at k0;by_cases h5:me t.text=true
  ·rw[h5] at hnb;rw[k0,if_pos h5];simp only;refine aW (by rfl) ?_
   have hpt:=hput ⟨[110,97,109,101],t.text,0,0,0,0⟩;refine WpF.enter tabOk Tryz.func157 rfl (by show 1<=77;decide) ?_
   simp only[Tryz.f157];have H:=And.intro h1 hw1;refine qR (by simp -implicitDefEqProofs[ac,H]<;>rfl) ?_
   refine WpC.seq ?_;refine WpC.region ?_;refine WpO.run tabOk 1 (by simp -implicitDefEqProofs[ac,H]<;>first|exact⟨rfl,rfl⟩|rfl) ?_
   refine WpO.callP [0,1,2] (by simp) rfl (by simp -implicitDefEqProofs[ac,H]<;>rfl) (by simp -implicitDefEqProofs[ac,H]<;>rfl) bX (by simp) (by simp) (by simp) (by simp -implicitDefEqProofs[ac,H]) (by simp;rfl) (by simp -implicitDefEqProofs[ac,H]) (htk) λr S1 hr=>?_
   obtain⟨rfl,rfl⟩:=hr;refine⟨_,by simp -implicitDefEqProofs[ac,H]<;>rfl,?_⟩
   refine WpO.run tabOk 2 (by simp -implicitDefEqProofs[ac,H]<;>first|exact⟨rfl,rfl⟩|rfl) ?_
   refine WpO.nil ?_;refine qR (by simp -implicitDefEqProofs[ac,H]<;>rfl) ?_
   refine WpC.seq ?_;refine qR (by simp -implicitDefEqProofs[ac,H]<;>rfl) ?_
   refine WpC.block ?_;refine qR (by simp -implicitDefEqProofs[ac,H]<;>rfl) ?_
   refine WpC.condF (by simp -implicitDefEqProofs[ac,H]<;>rfl) ?_
   refine qR (by simp -implicitDefEqProofs[ac,H]<;>rfl) ?_
   refine WpC.condF (by simp -implicitDefEqProofs[ac,H]<;>rfl) ?_
   refine qR (by simp -implicitDefEqProofs[ac,H]<;>rfl) ?_
   refine WpC.condF (by simp -implicitDefEqProofs[ac,H]<;>rfl) ?_
   refine qR (by simp -implicitDefEqProofs[ac,H]<;>rfl) ?_
   refine WpC.condT (by simp -implicitDefEqProofs[ac,H]<;>rfl) ?_
   refine qr (by simp -implicitDefEqProofs[ac,H]<;>rfl) ?_
   refine WpC.seq ?_;refine WpC.seq ?_;refine WpC.val 64 (.d (.bool (false))) ?_ ?_
   ·refine WpC.region ?_;refine WpO.run tabOk 4 (by simp -implicitDefEqProofs[ac,H]<;>first|exact⟨rfl,rfl⟩|rfl) ?_
    refine WpO.splitB 54 (by simp -implicitDefEqProofs[ac,H]<;>rfl) (by rfl) (λg54=>?_) (λg54=>?_)
    ·try(exfalso;revert g54;simp;done)
     all_goals
      have g54':=zN g54;replace H:=And.intro g54 H;refine WpO.run tabOk 10 (by simp -implicitDefEqProofs[ac,H]<;>first|exact⟨rfl,rfl⟩|rfl) ?_
      refine WpO.nil ?_;refine⟨rfl,Gh.only 64 15 ?_ (by first|rfl|simp -implicitDefEqProofs[ac,H]) (by rfl)⟩
      simp -implicitDefEqProofs[ac,H,g54']
    ·try(exfalso;revert g54;simp;done)
     all_goals
      have g54':=zN g54;replace H:=And.intro g54 H;refine WpO.run tabOk 4 (by simp -implicitDefEqProofs[ac,H]<;>first|exact⟨rfl,rfl⟩|rfl) ?_
      refine WpO.splitB 58 (by simp -implicitDefEqProofs[ac,H]<;>rfl) (by rfl) (λg58=>?_) (λg58=>?_)
      ·try(exfalso;revert g58;simp;done)
       all_goals
        have g58':=zN g58;replace H:=And.intro g58 H;refine WpO.run tabOk 2 (by simp -implicitDefEqProofs[ac,H]<;>first|exact⟨rfl,rfl⟩|rfl) ?_
        refine WpO.data (by simp) rfl (by simp -implicitDefEqProofs[ac,H]<;>rfl) (by simp -implicitDefEqProofs[ac,H]<;>rfl) (by simp -implicitDefEqProofs[ac,H]<;>rfl) ly (by simp) (hnb) (by rfl) (by simp -implicitDefEqProofs[ac,H]<;>rfl) ?_
        refine WpO.run tabOk 3 (by simp -implicitDefEqProofs[ac,H]<;>first|exact⟨rfl,rfl⟩|rfl) ?_
        refine WpO.nil ?_;refine⟨rfl,Gh.only 64 16 ?_ (by first|rfl|simp -implicitDefEqProofs[ac,H]) (by rfl)⟩
        simp -implicitDefEqProofs[ac,H,g54',g58']
      ·try(exfalso;revert g58;simp;done)
       all_goals
        have g58':=zN g58;replace H:=And.intro g58 H;refine WpO.run tabOk 6 (by simp -implicitDefEqProofs[ac,H]<;>first|exact⟨rfl,rfl⟩|rfl) ?_
        refine WpO.nil ?_;refine⟨rfl,Gh.only 64 16 ?_ (by first|rfl|simp -implicitDefEqProofs[ac,H]) (by rfl)⟩
        simp -implicitDefEqProofs[ac,H,g54',g58']
   refine WpC.condF (by simp -implicitDefEqProofs[ac,H]<;>rfl) ?_
   refine WpC.skip ?_;refine qR (by simp -implicitDefEqProofs[ac,H]<;>rfl) ?_
   refine WpC.seq ?_;refine WpC.region ?_;refine WpO.run tabOk 2 (by simp -implicitDefEqProofs[ac,H]<;>first|exact⟨rfl,rfl⟩|rfl) ?_
   refine WpO.callP [0,3,4] (by simp) rfl (by simp -implicitDefEqProofs[ac,H]<;>rfl) (by simp -implicitDefEqProofs[ac,H]<;>rfl) dL (by simp) (by simp) (by simp) (by simp -implicitDefEqProofs[ac,H]) (by simp;rfl) (by simp -implicitDefEqProofs[ac,H]) (hpt) λr S1 hr=>?_
   obtain⟨rfl,rfl⟩:=hr;refine⟨_,by simp -implicitDefEqProofs[ac,H]<;>rfl,?_⟩
   refine WpO.run tabOk 1 (by simp -implicitDefEqProofs[ac,H]<;>first|exact⟨rfl,rfl⟩|rfl) ?_
   refine WpO.nil ?_;refine WpC.ret ?_;refine⟨.inr rfl,_,by simp -implicitDefEqProofs<;>rfl,⟨by simp,7,8,by omega,by omega,by omega,by simp[ac],by simp[ac],by simp[ac]⟩,by simp⟩
  ·rw[show me t.text=false from by simpa using h5] at hnb
   rw[k0,if_neg h5];simp only;refine aW (by rfl) ?_
   refine WpF.enter tabOk Tryz.func157 rfl (by show 1<=77;decide) ?_
   simp only[Tryz.f157];have H:=And.intro h1 hw1;refine qR (by simp -implicitDefEqProofs[ac,H]<;>rfl) ?_
   refine WpC.seq ?_;refine WpC.region ?_;refine WpO.run tabOk 1 (by simp -implicitDefEqProofs[ac,H]<;>first|exact⟨rfl,rfl⟩|rfl) ?_
   refine WpO.callP [0,1,2] (by simp) rfl (by simp -implicitDefEqProofs[ac,H]<;>rfl) (by simp -implicitDefEqProofs[ac,H]<;>rfl) bX (by simp) (by simp) (by simp) (by simp -implicitDefEqProofs[ac,H]) (by simp;rfl) (by simp -implicitDefEqProofs[ac,H]) (htk) λr S1 hr=>?_
   obtain⟨rfl,rfl⟩:=hr;refine⟨_,by simp -implicitDefEqProofs[ac,H]<;>rfl,?_⟩
   refine WpO.run tabOk 2 (by simp -implicitDefEqProofs[ac,H]<;>first|exact⟨rfl,rfl⟩|rfl) ?_
   refine WpO.nil ?_;refine qR (by simp -implicitDefEqProofs[ac,H]<;>rfl) ?_
   refine WpC.seq ?_;refine qR (by simp -implicitDefEqProofs[ac,H]<;>rfl) ?_
   refine WpC.block ?_;refine qR (by simp -implicitDefEqProofs[ac,H]<;>rfl) ?_
   refine WpC.condF (by simp -implicitDefEqProofs[ac,H]<;>rfl) ?_
   refine qR (by simp -implicitDefEqProofs[ac,H]<;>rfl) ?_
   refine WpC.condF (by simp -implicitDefEqProofs[ac,H]<;>rfl) ?_
   refine qR (by simp -implicitDefEqProofs[ac,H]<;>rfl) ?_
   refine WpC.condF (by simp -implicitDefEqProofs[ac,H]<;>rfl) ?_
   refine qR (by simp -implicitDefEqProofs[ac,H]<;>rfl) ?_
   refine WpC.condT (by simp -implicitDefEqProofs[ac,H]<;>rfl) ?_
   refine qr (by simp -implicitDefEqProofs[ac,H]<;>rfl) ?_
   refine WpC.seq ?_;refine WpC.seq ?_;refine WpC.val 64 (.d (.bool (true))) ?_ ?_
   ·refine WpC.region ?_;refine WpO.run tabOk 4 (by simp -implicitDefEqProofs[ac,H]<;>first|exact⟨rfl,rfl⟩|rfl) ?_
    refine WpO.splitB 54 (by simp -implicitDefEqProofs[ac,H]<;>rfl) (by rfl) (λg54=>?_) (λg54=>?_)
    ·try(exfalso;revert g54;simp;done)
     all_goals
      have g54':=zN g54;replace H:=And.intro g54 H;refine WpO.run tabOk 10 (by simp -implicitDefEqProofs[ac,H]<;>first|exact⟨rfl,rfl⟩|rfl) ?_
      refine WpO.nil ?_;refine⟨rfl,Gh.only 64 15 ?_ (by first|rfl|simp -implicitDefEqProofs[ac,H]) (by rfl)⟩
      simp -implicitDefEqProofs[ac,H,g54']
    ·try(exfalso;revert g54;simp;done)
     all_goals
      have g54':=zN g54;replace H:=And.intro g54 H;refine WpO.run tabOk 4 (by simp -implicitDefEqProofs[ac,H]<;>first|exact⟨rfl,rfl⟩|rfl) ?_
      refine WpO.splitB 58 (by simp -implicitDefEqProofs[ac,H]<;>rfl) (by rfl) (λg58=>?_) (λg58=>?_)
      ·try(exfalso;revert g58;simp;done)
       all_goals
        have g58':=zN g58;replace H:=And.intro g58 H;refine WpO.run tabOk 2 (by simp -implicitDefEqProofs[ac,H]<;>first|exact⟨rfl,rfl⟩|rfl) ?_
        refine WpO.data (by simp) rfl (by simp -implicitDefEqProofs[ac,H]<;>rfl) (by simp -implicitDefEqProofs[ac,H]<;>rfl) (by simp -implicitDefEqProofs[ac,H]<;>rfl) ly (by simp) (hnb) (by rfl) (by simp -implicitDefEqProofs[ac,H]<;>rfl) ?_
        refine WpO.run tabOk 3 (by simp -implicitDefEqProofs[ac,H]<;>first|exact⟨rfl,rfl⟩|rfl) ?_
        refine WpO.nil ?_;refine⟨rfl,Gh.only 64 16 ?_ (by first|rfl|simp -implicitDefEqProofs[ac,H]) (by rfl)⟩
        simp -implicitDefEqProofs[ac,H,g54',g58']
      ·try(exfalso;revert g58;simp;done)
       all_goals
        have g58':=zN g58;replace H:=And.intro g58 H;refine WpO.run tabOk 6 (by simp -implicitDefEqProofs[ac,H]<;>first|exact⟨rfl,rfl⟩|rfl) ?_
        refine WpO.nil ?_;refine⟨rfl,Gh.only 64 16 ?_ (by first|rfl|simp -implicitDefEqProofs[ac,H]) (by rfl)⟩
        simp -implicitDefEqProofs[ac,H,g54',g58']
   refine WpC.condT (by simp -implicitDefEqProofs[ac,H]<;>rfl) ?_
   refine WpC.seq ?_;refine WpC.region ?_;refine WpO.run tabOk 1 (by simp -implicitDefEqProofs[ac,H]<;>first|exact⟨rfl,rfl⟩|rfl) ?_
   refine WpO.callP [0,3,4] (by simp) rfl (by simp -implicitDefEqProofs[ac,H]<;>rfl) (by simp -implicitDefEqProofs[ac,H]<;>rfl) ff (by simp) (by simp) (by simp) (by simp -implicitDefEqProofs[ac,H]) (by simp;rfl) (by simp -implicitDefEqProofs[ac,H]) (hf) λr S1 hr=>?_
   obtain⟨rfl,rfl⟩:=hr;refine⟨_,by simp -implicitDefEqProofs[ac,H]<;>rfl,?_⟩
   refine WpO.nil ?_;refine qR (by simp -implicitDefEqProofs[ac,H]<;>rfl) ?_
   refine WpC.ret ?_;refine⟨.inr rfl,_,by simp -implicitDefEqProofs<;>rfl,⟨by simp,7,8,by omega,by omega,by omega,by simp[ac],by simp[ac],by simp[ac]⟩,by simp⟩
 ·rw[if_neg h1] at k0;rw[k0];simp only;refine aW (by rfl) ?_
  refine WpF.enter tabOk Tryz.func157 rfl (by show 1<=77;decide) ?_
  simp only[Tryz.f157];have H:=And.intro h1 (And.intro h2 (And.intro h3 (And.intro h4 hw1)));refine qR (by simp -implicitDefEqProofs[ac,H]<;>rfl) ?_
  refine WpC.seq ?_;refine WpC.region ?_;refine WpO.run tabOk 1 (by simp -implicitDefEqProofs[ac,H]<;>first|exact⟨rfl,rfl⟩|rfl) ?_
  refine WpO.callP [0,1,2] (by simp) rfl (by simp -implicitDefEqProofs[ac,H]<;>rfl) (by simp -implicitDefEqProofs[ac,H]<;>rfl) bX (by simp) (by simp) (by simp) (by simp -implicitDefEqProofs[ac,H]) (by simp;rfl) (by simp -implicitDefEqProofs[ac,H]) (htk) λr S1 hr=>?_
  obtain⟨rfl,rfl⟩:=hr;refine⟨_,by simp -implicitDefEqProofs[ac,H]<;>rfl,?_⟩
  refine WpO.run tabOk 2 (by simp -implicitDefEqProofs[ac,H]<;>first|exact⟨rfl,rfl⟩|rfl) ?_
  refine WpO.nil ?_;refine qR (by simp -implicitDefEqProofs[ac,H]<;>rfl) ?_
  refine WpC.seq ?_;refine qR (by simp -implicitDefEqProofs[ac,H]<;>rfl) ?_
  refine WpC.block ?_;refine qR (by simp -implicitDefEqProofs[ac,H]<;>rfl) ?_
  refine WpC.condF (by simp -implicitDefEqProofs[ac,H]<;>rfl) ?_
  refine qR (by simp -implicitDefEqProofs[ac,H]<;>rfl) ?_
  refine WpC.condF (by simp -implicitDefEqProofs[ac,H]<;>rfl) ?_
  refine qR (by simp -implicitDefEqProofs[ac,H]<;>rfl) ?_
  refine WpC.condF (by simp -implicitDefEqProofs[ac,H]<;>rfl) ?_
  refine qR (by simp -implicitDefEqProofs[ac,H]<;>rfl) ?_
  refine WpC.condF (by simp -implicitDefEqProofs[ac,H]<;>rfl) ?_
  refine WpC.skip ?_;refine WpC.seq ?_;refine WpC.seq ?_;refine WpC.val 64 (.d (.bool (true))) ?_ ?_
  ·refine WpC.region ?_;refine WpO.run tabOk 4 (by simp -implicitDefEqProofs[ac,H]<;>first|exact⟨rfl,rfl⟩|rfl) ?_
   refine WpO.splitB 54 (by simp -implicitDefEqProofs[ac,H]<;>rfl) (by rfl) (λg54=>?_) (λg54=>?_)
   ·try(exfalso;revert g54;simp;done)
    all_goals
     have g54':=zN g54;replace H:=And.intro g54 H;refine WpO.run tabOk 10 (by simp -implicitDefEqProofs[ac,H]<;>first|exact⟨rfl,rfl⟩|rfl) ?_
     refine WpO.nil ?_;refine⟨rfl,Gh.only 64 15 ?_ (by first|rfl|simp -implicitDefEqProofs[ac,H]) (by rfl)⟩
     simp -implicitDefEqProofs[ac,H,g54']
   ·try(exfalso;revert g54;simp;done)
    all_goals
     have g54':=zN g54;replace H:=And.intro g54 H;refine WpO.run tabOk 4 (by simp -implicitDefEqProofs[ac,H]<;>first|exact⟨rfl,rfl⟩|rfl) ?_
     refine WpO.splitB 58 (by simp -implicitDefEqProofs[ac,H]<;>rfl) (by rfl) (λg58=>?_) (λg58=>?_)
     ·try(exfalso;revert g58;simp;done)
      all_goals
       have g58':=zN g58;replace H:=And.intro g58 H;refine WpO.run tabOk 2 (by simp -implicitDefEqProofs[ac,H]<;>first|exact⟨rfl,rfl⟩|rfl) ?_
       contradiction
       refine WpO.run tabOk 3 (by simp -implicitDefEqProofs[ac,H]<;>first|exact⟨rfl,rfl⟩|rfl) ?_
       refine WpO.nil ?_;refine⟨rfl,Gh.only 64 16 ?_ (by first|rfl|simp -implicitDefEqProofs[ac,H]) (by rfl)⟩
       simp -implicitDefEqProofs[ac,H,g54',g58']
     ·try(exfalso;revert g58;simp;done)
      all_goals
       have g58':=zN g58;replace H:=And.intro g58 H;refine WpO.run tabOk 6 (by simp -implicitDefEqProofs[ac,H]<;>first|exact⟨rfl,rfl⟩|rfl) ?_
       refine WpO.nil ?_;refine⟨rfl,Gh.only 64 16 ?_ (by first|rfl|simp -implicitDefEqProofs[ac,H]) (by rfl)⟩
       simp -implicitDefEqProofs[ac,H,g54',g58']
  refine WpC.condT (by simp -implicitDefEqProofs[ac,H]<;>rfl) ?_
  refine WpC.seq ?_;refine WpC.region ?_;refine WpO.run tabOk 1 (by simp -implicitDefEqProofs[ac,H]<;>first|exact⟨rfl,rfl⟩|rfl) ?_
  refine WpO.callP [0,3,4] (by simp) rfl (by simp -implicitDefEqProofs[ac,H]<;>rfl) (by simp -implicitDefEqProofs[ac,H]<;>rfl) ff (by simp) (by simp) (by simp) (by simp -implicitDefEqProofs[ac,H]) (by simp;rfl) (by simp -implicitDefEqProofs[ac,H]) (hf) λr S1 hr=>?_
  obtain⟨rfl,rfl⟩:=hr;refine⟨_,by simp -implicitDefEqProofs[ac,H]<;>rfl,?_⟩
  refine WpO.nil ?_;refine qR (by simp -implicitDefEqProofs[ac,H]<;>rfl) ?_
  refine WpC.ret ?_;refine⟨.inr rfl,_,by simp -implicitDefEqProofs<;>rfl,⟨by simp,7,8,by omega,by omega,by omega,by simp[ac],by simp[ac],by simp[ac]⟩,by simp⟩
end Go.Proofs.YtlhmejigmokbhaaGreatDoor.Pay
