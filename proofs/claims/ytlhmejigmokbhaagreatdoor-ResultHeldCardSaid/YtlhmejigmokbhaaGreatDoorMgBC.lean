/- The texts TrD, TrE, one behind the other. No statement of the seed is proved here. -/
import Derived.Test.YtlhmejigmokbhaaGreatDoorMgBB
namespace Go.Proofs.YtlhmejigmokbhaaGreatDoor.Pay
open Go Go.RowKit
set_option linter.unusedVariables false
set_option linter.unusedSimpArgs false
abbrev PF:=Ps->Ps×Int
section
variable (toks:List Tok) (en:Nat)
def fJ (F:PF):Nat->Ps->Int->Ps×Int
 |0,st,a=>(st,a)
 |f+1,st,a=>if bW [[42]] toks en st=true then fJ F f (cu ⟨[42],[],0,a,(F (ac st)).2,0⟩ (F (ac st)).1) (F (ac st)).1.exprs.length else(st,a)
def ck (F:PF) (st:Ps):Ps×Int:=fJ toks en F (toks.length+1) (F st).1 (F st).2
def jZ (G:PF):Nat->Ps->Int->Ps×Int
 |0,st,a=>(st,a)
 |f+1,st,a=>if bW [[43],[45]] toks en st=true then jZ G f (cu ⟨(aV toks en st).text,[],0,a,(G (ac st)).2,0⟩ (G (ac st)).1) (G (ac st)).1.exprs.length else(st,a)
def jY (F:PF) (st:Ps):Ps×Int:=jZ toks en (ck toks en F) (toks.length+1) (ck toks en F st).1 (ck toks en F st).2
def jp (E:PF) (op:List UInt8) (st:Ps):Ps×Int:=
 let a:=E (aG [40] toks en st)
 let b:=E (aG [44] toks en a.1)
 let s:=aG [41] toks en b.1
 (cu ⟨op,[],0,a.2,b.2,0⟩ s,s.exprs.length)
def dt (E F:PF) (st:Ps):Ps×Int:=
 if st.err≠0 then(st,0)
 else if bW [[45]] toks en st=true then(cu ⟨[110,101,103],[],0,(F (ac st)).2,0,0⟩ (F (ac st)).1,(F (ac st)).1.exprs.length)
 else if bW [[109,105,110],[109,97,120]] toks en st=true then jp toks en E (aV toks en st).text (ac st)
 else if bW [[40]] toks en st=true then(aG [41] toks en (E (ac st)).1,(E (ac st)).2)
 else gf toks en st
def va:List (List UInt8):=[[60],[60,61],[61],[60,62],[62],[62,61]]
def ifP (E:PF) (st:Ps):Ps×Int:=
 let a:=E (ac st)
 let b:=E (aG [116,104,101,110] toks en a.1)
 let c:=E (aG [101,108,115,101] toks en b.1)
 (cu ⟨[105,102],[],0,a.2,b.2,c.2⟩ c.1,c.1.exprs.length)
def jG (F:PF) (st:Ps):Ps×Int:=
 let a:=jY toks en F st
 if bW va toks en a.1=true then
  let b:=jY toks en F (ac a.1)
  (cu ⟨(aV toks en a.1).text,[],0,a.2,b.2,0⟩ b.1,b.1.exprs.length)
 else a
def fd (E F:PF) (st:Ps):Ps×Int:=
 if st.err≠0 then(st,0)
 else if bW [[105,102]] toks en st=true then ifP toks en E st
 else jG toks en F st
def lev:Nat->PF×PF
 |0=>(λst=>(bD toks en 9 st,0),λst=>(bD toks en 9 st,0))
 |R+1=>(fd toks en (lev R).1 (dt toks en (lev R).1 (lev R).2),dt toks en (lev R).1 (lev R).2)
end
def wfP (toks:List Tok) (st:Ps):Prop:=st.pos<=toks.length/\st.exprs.length<=st.pos
def gr (toks:List Tok) (st st':Ps):Prop:=st.pos<=st'.pos/\st'.pos<=toks.length/\st'.exprs.length+st.pos<=st.exprs.length+st'.pos
def GRF (toks:List Tok) (F:PF):Prop:=∀st,wfP toks st->gr toks st (F st).1
section
variable {toks:List Tok} {en:Nat}
theorem aU {st st':Ps} (h:wfP toks st) (g:gr toks st st'):wfP toks st':=by unfold wfP gr at*;omega
theorem i8 {st:Ps} (h:¬st.pos<toks.length):aV toks en st=⟨0,[],en⟩:=by simp[aV,List.getD,h]
theorem ou {ws:List (List UInt8)} {st:Ps} (h:bW ws toks en st=true):st.pos<toks.length:=by
 refine Decidable.byContradiction λhc=>?_
 rw[bW,i8 hc] at h;simp at h
theorem br {ws:List (List UInt8)} {st:Ps} (hw:wfP toks st) (h:bW ws toks en st=true):wfP toks (ac st):=by
 have:=ou h;unfold wfP ac at*;simp only;omega
theorem fX (e:Int) (st:Ps):(bD toks en e st).pos=st.pos/\(bD toks en e st).exprs=st.exprs/\(bD toks en e st).rules=st.rules:=by
 unfold bD;split<;>simp
theorem cR {e:Int} (he:e≠0) (st:Ps):¬(bD toks en e st).err=0:=by
 unfold bD;split
 ·exact he
 ·assumption
theorem jD {e:Int} {st:Ps} (hw:wfP toks st):gr toks st (bD toks en e st):=by
 have h:=fX (toks:=toks) (en:=en) e st;unfold wfP at hw;unfold gr;rw[h.1,h.2.1];omega
theorem co {s:List UInt8} {st:Ps} (hw:wfP toks st):gr toks st (aG s toks en st):=by
 unfold aG;split
 ·rename_i h;have:=ou h;unfold wfP at hw;unfold gr ac;simp only;omega
 ·exact jD hw
theorem bC {a b c:Ps} (h:gr toks a b) (k:gr toks b c):gr toks a c:=by unfold gr at*;omega
theorem ir {a:Ps} (h:wfP toks a):gr toks a a:=by unfold gr wfP at*;omega
theorem gK {ws:List (List UInt8)} {st s2:Ps} {e:Ex} (h:bW ws toks en st=true) (hw:wfP toks st) (g:gr toks (ac st) s2):gr toks st (cu e s2):=by
 have:=ou h;unfold gr ac at g;simp only at g;unfold gr cu;simp only[List.length_append,List.length_cons,List.length_nil];unfold wfP at hw;omega
theorem pZ {F:PF} (hF:GRF toks F):∀f st a,wfP toks st->gr toks st (fJ toks en F f st a).1
 |0,st,a,hw=>ir hw
 |f+1,st,a,hw=>by
  unfold fJ;split
  ·rename_i h;have g:=gK (e:=⟨[42],[],0,a,(F (ac st)).2,0⟩) h hw (hF _ (br hw h));exact bC g (pZ hF f _ _ (aU hw g))
  ·exact ir hw
theorem l8 {F:PF} (hF:GRF toks F):GRF toks (ck toks en F):=λst hw=>
 bC (hF st hw) (pZ hF _ _ _ (aU hw (hF st hw)))
theorem sE {G:PF} (hG:GRF toks G):∀f st a,wfP toks st->gr toks st (jZ toks en G f st a).1
 |0,st,a,hw=>ir hw
 |f+1,st,a,hw=>by
  unfold jZ;split
  ·rename_i h;have g:=gK (e:=⟨(aV toks en st).text,[],0,a,(G (ac st)).2,0⟩) h hw (hG _ (br hw h));exact bC g (sE hG f _ _ (aU hw g))
  ·exact ir hw
theorem oz {F:PF} (hF:GRF toks F):GRF toks (jY toks en F):=λst hw=>
 have g:=l8 (en:=en) hF st hw
 bC g (sE (l8 hF) _ _ _ (aU hw g))
theorem wW {st:Ps} (hw:wfP toks st):gr toks st (gf toks en st).1:=by
 unfold gf;split
 ·rename_i e he;have hlt:st.pos<toks.length:=by
   refine Decidable.byContradiction λhc=>?_
   rw[i8 hc] at he;simp[nR] at he
  unfold wfP at hw;unfold gr cu ac;simp only[List.length_append,List.length_cons,List.length_nil];omega
 ·exact jD hw
theorem wE {E:PF} (hE:GRF toks E) {op:List UInt8} {ws:List (List UInt8)} {st:Ps} (hw:wfP toks st) (h:bW ws toks en st=true):gr toks st (jp toks en E op (ac st)).1:=by
 have w0:=br hw h;have g1:=co (s:=[40]) (en:=en) w0;have w1:=aU w0 g1;have g2:=hE _ w1;have w2:=aU w1 g2;have g3:=co (s:=[44]) (en:=en) w2;have w3:=aU w2 g3;have g4:=hE _ w3;have w4:=aU w3 g4;have g5:=co (s:=[41]) (en:=en) w4;exact gK h hw (bC g1 (bC g2 (bC g3 (bC g4 g5))))
theorem my {E F:PF} (hE:GRF toks E) (hF:GRF toks F):GRF toks (dt toks en E F):=λst hw=>by
 unfold dt;split
 ·exact ir hw
 ·split
  ·rename_i h;exact gK h hw (hF _ (br hw h))
  ·split
   ·rename_i h;exact wE hE hw h
   ·split
    ·rename_i h;have w0:=br hw h;have g1:=hE _ w0;have g2:=co (s:=[41]) (en:=en) (aU w0 g1);have g3:=bC g1 g2;show gr toks st (aG [41] toks en (E (ac st)).1)
     obtain⟨z,hz⟩:∃z,aG [41] toks en (E (ac st)).1=z:=⟨_,rfl⟩
     rw[hz] at g3 ⊢;unfold gr ac at g3;simp only at g3;unfold gr;omega
    ·exact wW hw
theorem FA {E:PF} (hE:GRF toks E) {ws:List (List UInt8)} {st:Ps} (hw:wfP toks st) (h:bW ws toks en st=true):gr toks st (ifP toks en E st).1:=by
 have w0:=br hw h;have g1:=hE _ w0;have w1:=aU w0 g1;have g2:=co (s:=[116,104,101,110]) (en:=en) w1;have w2:=aU w1 g2;have g3:=hE _ w2;have w3:=aU w2 g3;have g4:=co (s:=[101,108,115,101]) (en:=en) w3;have w4:=aU w3 g4;have g5:=hE _ w4;exact gK h hw (bC g1 (bC g2 (bC g3 (bC g4 g5))))
theorem xB {E F:PF} (hE:GRF toks E) (hF:GRF toks F):GRF toks (fd toks en E F):=λst hw=>by
 unfold fd;split
 ·exact ir hw
 ·split
  ·rename_i h;exact FA hE hw h
  ·have g:=oz (en:=en) hF st hw;have w:=aU hw g;unfold jG;simp only;split
   ·rename_i h;exact bC g (gK h w (oz hF _ (br w h)))
   ·exact g
theorem gU:∀R,GRF toks (lev toks en R).1/\GRF toks (lev toks en R).2
 |0=>⟨λst hw=>jD hw,λst hw=>jD hw⟩
 |R+1=>⟨xB (gU R).1 (my (gU R).1 (gU R).2),my (gU R).1 (gU R).2⟩
end
theorem Ha {p q:Nat}:∀i,i<3->([0,1,2,p,q]:List Nat)[i]?=some i
 |0,_=>rfl
 |1,_=>rfl
 |2,_=>rfl
def eI (f:FuncId) (d:Nat) (toks:List Tok) (en:Nat) (F:PF):Prop:=∀st,wfP toks st->WpF Tryz.prog f [.ref 0 0,.d (dI d)] (S0 toks en st) λr S=>r= .d (dI (F st).2)/\S=S2 toks en (F st).1
set_option maxHeartbeats 2000000 in
theorem vC (d:Nat) (toks:List Tok) (en:Nat) (F:PF) (hn:toks.length<=500000000) (hF:eI 114 d toks en F) (hG:GRF toks F):eI 89 d toks en (ck toks en F):=λst hw=>by
 have h1:=hF st hw;have w1:=aU hw (hG st hw);obtain⟨Z,hZ⟩:∃Z,ck toks en F st=Z:=⟨_,rfl⟩
 have hZ0:Z=fJ toks en F (toks.length+1) (F st).1 (F st).2:=hZ.symm;rw[hZ];obtain⟨⟨s1,a1⟩,e1⟩:∃p,F st=p:=⟨_,rfl⟩
 rw[e1] at h1 w1 hZ0;simp only at h1 w1 hZ0;refine aW (by rfl) ?_
 refine WpF.enter tabOk Tryz.func89 rfl (by show 2<=29;decide) ?_
 simp only[Tryz.f89];have H:=trivial;refine zR ?_;refine WpC.seq ?_;refine WpC.region ?_;refine zO 2 ?_;refine zP [0,1,2] mJ (h1) ?_;refine zO 1 ?_;refine WpO.nil ?_;refine WpC.block ?_;refine WpC.loopM [0,1] [5] (λx=>toks.length-x.1.pos) ((s1,a1):Ps×Int) (λx=>[(5,.d (dI x.2))]) (λx=>[.cells rH (psC toks en x.1 3 4),.gone,.gone,.arr rG 3 (x.1.rules.map Ru.enc),.arr pK 6 (x.1.exprs.map Ex.enc)]) (λx=>wfP toks x.1/\∃f,toks.length-x.1.pos<f/\Z=fJ toks en F f x.1 x.2) (by simp -implicitDefEqProofs[H]<;>rfl) (Gh.cut' [5,0,1] 5 (by simp -implicitDefEqProofs[H]) (by simp -implicitDefEqProofs[H]) rfl (by simp) (by simp) (by simp)) (⟨w1,toks.length+1,by simp only;omega,hZ0⟩) ?_
 rintro x hi;simp only[List.cons_append,List.nil_append];obtain⟨y,a⟩:=x;obtain⟨hy,f,hf,hpr⟩:=hi;simp only at hy hf hpr ⊢;have hyp:y.pos<=500000000:=by unfold wfP at hy;omega
 have ht:=i_ [[42]] toks en y hn hyp (by simp)
 simp only[List.map_cons,List.map_nil] at ht;have hS:pJ [[42]] toks en y=if bW [[42]] toks en y=true then ac y else y:=rfl
 have hst:∀f,fJ toks en F (f+1) y a=if bW [[42]] toks en y=true then fJ toks en F f (cu ⟨[42],[],0,a,(F (ac y)).2,0⟩ (F (ac y)).1) (F (ac y)).1.exprs.length else(y,a):=λ_=>rfl
 have hwn:bW [[42]] toks en y=true->wfP toks (ac y)/\gr toks y (cu ⟨[42],[],0,a,(F (ac y)).2,0⟩ (F (ac y)).1)/\gr toks (ac y) (F (ac y)).1:=λh=>⟨br hy h,gK h hy (hG _ (br hy h)),hG _ (br hy h)⟩
 obtain⟨b,hb⟩:∃b,bW [[42]] toks en y=b:=⟨_,rfl⟩
 rw[hb] at ht hS hst hwn;rw[hS] at ht;refine WpC.block ?_;refine WpC.seq ?_;refine WpC.seq ?_;refine WpC.region ?_;refine zO 2 ?_;refine WpO.gh (Gh.frz [5]) ?_;refine zP [0,3,4] bk (ht) ?_;refine zO 5 ?_;refine WpO.nil ?_;refine zR ?_;refine zD (b=false) (λd19=>?_) (λd19=>?_)
 ·have hd:=d19;subst hd;have hres:Z=(y,a):=by
   cases f with
   |zero=>omega
   |succ f=>rw[hpr,hst,if_neg (by simp)]
  rw[if_neg (by simp)] at ht
  replace H:=And.intro d19 H;refine zR ?_;refine WpC.ret ?_;refine⟨.inr rfl,_,by simp -implicitDefEqProofs<;>rfl,⟨by simp[hres],6,7,by omega,by omega,by omega,by simp[hres],by simp[hres],by simp[hres]⟩,by simp⟩
 have hbt:b=true:=by cases b<;>simp_all
 subst hbt;have hwb:=hwn rfl;have h2:=hF (ac y) hwb.1;have hpos:=hwb.2.2;have hZ2:∃f',toks.length-y.pos<=f'/\f=f'+1:=by
  cases f with
  |zero=>omega
  |succ f=>exact⟨f,by omega,rfl⟩
 obtain⟨f',hf',rfl⟩:=hZ2;rw[hst,if_pos rfl] at hpr;obtain⟨⟨s2,a2⟩,e2⟩:∃p,F (ac y)=p:=⟨_,rfl⟩
 rw[e2] at h2 hpos hpr hwb;simp only at h2 hpos hpr hwb;have hpp:y.pos<s2.pos:=by unfold gr ac at hpos;simp only at hpos;omega
 have hw2:=aU hwb.1 hpos;have h3:=oI ⟨[42],[],0,a,a2,0⟩ toks en s2 (by unfold wfP at hw2;omega)
 obtain⟨f,hff⟩:∃f,f'=f:=⟨_,rfl⟩
 rw[hff] at hpr hf';have hres2:=hpr;have hs2:s2.pos<=toks.length:=hw2.1;rw[if_pos rfl] at ht;replace H:=And.intro d19 H;refine WpC.skip ?_;refine WpC.seq ?_;refine WpC.region ?_;refine zO 2 ?_;refine zP [0,6,7] mJ (h2) ?_;refine zO 1 ?_;refine WpO.nil ?_;refine WpC.region ?_;refine zO 4 ?_;refine zP [0,8,9] dL (h3) ?_;refine zO 1 ?_;refine WpO.nil ?_;exact⟨(cu ⟨[42],[],0,a,a2,0⟩ s2,s2.exprs.length),⟨aU hy hwb.2.1,f,by simp only[cu];omega,hres2⟩,by simp only[cu];omega,Gh.pick [5,0,1] [0,1,2,10,11] (by simp;rfl) (by simp) (by simp) (by simp) (by simp;rfl) (by simp[cu]) Ha⟩
theorem fE (ws:List (List UInt8)) (toks:List Tok) (en:Nat) (st:Ps) (hn:toks.length<=500000000) (hp:wfP toks st) (hw:ws.length<=1000) (h:bW ws toks en st=true):WpF Tryz.prog 37 [.ref 0 0,.d (.list 1 (ws.map .str))] (S0 toks en st)
 λr S=>r= .tup [.d (.str (aV toks en st).text),.d (.bool true)]/\S=S2 toks en (ac st):=by
 have:=i_ ws toks en st hn (by unfold wfP at hp;omega) hw
 rw[rE,pJ,h,if_pos rfl,if_pos rfl] at this;exact this
theorem ie (ws:List (List UInt8)) (toks:List Tok) (en:Nat) (st:Ps) (hn:toks.length<=500000000) (hp:wfP toks st) (hw:ws.length<=1000) (h:bW ws toks en st=false):WpF Tryz.prog 37 [.ref 0 0,.d (.list 1 (ws.map .str))] (S0 toks en st)
 λr S=>r= .tup [.d (.str []),.d (.bool false)]/\S=S2 toks en st:=by
 have:=i_ ws toks en st hn (by unfold wfP at hp;omega) hw
 rw[rE,pJ,h,if_neg (by simp),if_neg (by simp)] at this
 exact this
theorem gO (s:List UInt8) (toks:List Tok) (en:Nat) (st:Ps) (hn:toks.length<=500000000) (hp:wfP toks st):WpF Tryz.prog 39 [.ref 0 0,.d (.str s)] (S0 toks en st)
 λr S=>r= .tup []/\S=S2 toks en (aG s toks en st):=Bn s toks en st hn (by unfold wfP at hp;omega)
theorem sO (e:Ex) (toks:List Tok) (en:Nat) (st:Ps) (hn:toks.length<=500000000) (hp:wfP toks st):WpF Tryz.prog 62 [.ref 0 0,.d e.enc] (S0 toks en st)
 λr S=>r= .d (dI st.exprs.length)/\S=S2 toks en (cu e st):=oI e toks en st (by unfold wfP at hp;omega)
set_option maxHeartbeats 2000000 in
theorem yZ (d:Nat) (toks:List Tok) (en:Nat) (F:PF) (hn:toks.length<=500000000) (hF:eI 89 d toks en (ck toks en F)) (hG:GRF toks (ck toks en F)):eI 63 d toks en (jY toks en F):=λst hw=>by
 have h1:=hF st hw;have w1:=aU hw (hG st hw);obtain⟨Z,hZ⟩:∃Z,jY toks en F st=Z:=⟨_,rfl⟩
 have hZ0:Z=jZ toks en (ck toks en F) (toks.length+1) (ck toks en F st).1 (ck toks en F st).2:=hZ.symm;rw[hZ];obtain⟨⟨s1,a1⟩,e1⟩:∃p,ck toks en F st=p:=⟨_,rfl⟩
 rw[e1] at h1 w1 hZ0;simp only at h1 w1 hZ0;refine aW (by rfl) ?_
 refine WpF.enter tabOk Tryz.func63 rfl (by show 2<=30;decide) ?_
 simp only[Tryz.f63];have H:=trivial;refine zR ?_;refine WpC.seq ?_;refine WpC.region ?_;refine zO 2 ?_;refine zP [0,1,2] tI (h1) ?_;refine zO 1 ?_;refine WpO.nil ?_;refine WpC.block ?_;refine WpC.loopM [0,1] [5] (λx=>toks.length-x.1.pos) ((s1,a1):Ps×Int) (λx=>[(5,.d (dI x.2))]) (λx=>[.cells rH (psC toks en x.1 3 4),.gone,.gone,.arr rG 3 (x.1.rules.map Ru.enc),.arr pK 6 (x.1.exprs.map Ex.enc)]) (λx=>wfP toks x.1/\∃f,toks.length-x.1.pos<f/\Z=jZ toks en (ck toks en F) f x.1 x.2) (by simp -implicitDefEqProofs[H]<;>rfl) (Gh.cut' [5,0,1] 5 (by simp -implicitDefEqProofs[H]) (by simp -implicitDefEqProofs[H]) rfl (by simp) (by simp) (by simp)) (⟨w1,toks.length+1,by simp only;omega,hZ0⟩) ?_
 rintro x hi;simp only[List.cons_append,List.nil_append];obtain⟨y,a⟩:=x;obtain⟨hy,f,hf,hpr⟩:=hi;simp only at hy hf hpr ⊢;have hyp:y.pos<=500000000:=by unfold wfP at hy;omega
 have ht:=i_ [[43],[45]] toks en y hn hyp (by simp)
 simp only[List.map_cons,List.map_nil] at ht;have hS:pJ [[43],[45]] toks en y=if bW [[43],[45]] toks en y=true then ac y else y:=rfl
 have hst:∀f,jZ toks en (ck toks en F) (f+1) y a=if bW [[43],[45]] toks en y=true then jZ toks en (ck toks en F) f (cu ⟨(aV toks en y).text,[],0,a,(ck toks en F (ac y)).2,0⟩ (ck toks en F (ac y)).1) (ck toks en F (ac y)).1.exprs.length else(y,a):=λ_=>rfl
 have hwn:bW [[43],[45]] toks en y=true->wfP toks (ac y)/\gr toks y (cu ⟨(aV toks en y).text,[],0,a,(ck toks en F (ac y)).2,0⟩ (ck toks en F (ac y)).1)/\gr toks (ac y) (ck toks en F (ac y)).1:=λh=>⟨br hy h,gK h hy (hG _ (br hy h)),hG _ (br hy h)⟩
 have hTx:rE [[43],[45]] toks en y=if bW [[43],[45]] toks en y=true then(aV toks en y).text else []:=rfl
 obtain⟨b,hb⟩:∃b,bW [[43],[45]] toks en y=b:=⟨_,rfl⟩
 rw[hb] at ht hS hst hwn hTx;rw[hS,hTx] at ht;refine WpC.block ?_;refine WpC.seq ?_;refine WpC.region ?_;refine zO 2 ?_;refine WpO.gh (Gh.frz [5]) ?_;refine zP [0,3,4] bk (ht) ?_;refine zO 5 ?_;refine WpO.nil ?_;refine WpC.seq ?_;refine zR ?_;refine zD (b=false) (λd19=>?_) (λd19=>?_)
 ·have hd:=d19;subst hd;have hres:Z=(y,a):=by
   cases f with
   |zero=>omega
   |succ f=>rw[hpr,hst,if_neg (by simp)]
  rw[if_neg (by simp),if_neg (by simp)] at ht
  replace H:=And.intro d19 H;refine zR ?_;refine WpC.ret ?_;refine⟨.inr rfl,_,by simp -implicitDefEqProofs<;>rfl,⟨by simp[hres],6,7,by omega,by omega,by omega,by simp[hres],by simp[hres],by simp[hres]⟩,by simp⟩
 have hbt:b=true:=by cases b<;>simp_all
 subst hbt;have hwb:=hwn rfl;have h2:=hF (ac y) hwb.1;have hpos:=hwb.2.2;have hZ2:∃f',toks.length-y.pos<=f'/\f=f'+1:=by
  cases f with
  |zero=>omega
  |succ f=>exact⟨f,by omega,rfl⟩
 obtain⟨f',hf',rfl⟩:=hZ2;rw[hst,if_pos rfl] at hpr;obtain⟨⟨s2,a2⟩,e2⟩:∃p,ck toks en F (ac y)=p:=⟨_,rfl⟩
 rw[e2] at h2 hpos hpr hwb;simp only at h2 hpos hpr hwb;have hpp:y.pos<s2.pos:=by unfold gr ac at hpos;simp only at hpos;omega
 have hw2:=aU hwb.1 hpos;have h3:=oI ⟨(aV toks en y).text,[],0,a,a2,0⟩ toks en s2 (by unfold wfP at hw2;omega)
 obtain⟨f,hff⟩:∃f,f'=f:=⟨_,rfl⟩
 rw[hff] at hpr hf';have hres2:=hpr;have hs2:s2.pos<=toks.length:=hw2.1;rw[if_pos rfl,if_pos rfl] at ht;replace H:=And.intro d19 H;refine WpC.skip ?_;refine WpC.seq ?_;refine WpC.region ?_;refine zO 2 ?_;refine zP [0,6,7] tI (h2) ?_;refine zO 1 ?_;refine WpO.nil ?_;refine WpC.region ?_;refine zO 5 ?_;refine zP [0,8,9] dL (h3) ?_;refine zO 1 ?_;refine WpO.nil ?_;exact⟨(cu ⟨(aV toks en y).text,[],0,a,a2,0⟩ s2,s2.exprs.length),⟨aU hy hwb.2.1,f,by simp only[cu];omega,hres2⟩,by simp only[cu];omega,Gh.pick [5,0,1] [0,1,2,10,11] (by simp;rfl) (by simp) (by simp) (by simp) (by simp;rfl) (by simp[cu]) Ha⟩
set_option maxHeartbeats 2000000 in
theorem vD (d:Nat) (hd:d<=20) (toks:List Tok) (en:Nat) (E:PF) (hn:toks.length<=500000000) (hE:eI 40 (d+1) toks en E) (gE:GRF toks E) (op:List UInt8) (st:Ps) (hw:wfP toks st):
 WpF Tryz.prog 156 [.ref 0 0,.d (.str op),.d (dI d)] (S0 toks en st) λr S=>r= .d (dI (jp toks en E op st).2)/\S=S2 toks en (jp toks en E op st).1:=by
 have n1:=gO [40] toks en st hn hw;have w1:=aU hw (co (s:=[40]) (en:=en) hw);obtain⟨s1,q1⟩:∃s,aG [40] toks en st=s:=⟨_,rfl⟩
 rw[q1] at n1 w1;have x2:=hE s1 w1;have w2:=aU w1 (gE s1 w1);obtain⟨⟨s2,a2⟩,q2⟩:∃s,E s1=s:=⟨_,rfl⟩
 rw[q2] at x2 w2;simp only at x2 w2;have n3:=gO [44] toks en s2 hn w2;have w3:=aU w2 (co (s:=[44]) (en:=en) w2);obtain⟨s3,q3⟩:∃s,aG [44] toks en s2=s:=⟨_,rfl⟩
 rw[q3] at n3 w3;have x4:=hE s3 w3;have w4:=aU w3 (gE s3 w3);obtain⟨⟨s4,a4⟩,q4⟩:∃s,E s3=s:=⟨_,rfl⟩
 rw[q4] at x4 w4;simp only at x4 w4;have n5:=gO [41] toks en s4 hn w4;have w5:=aU w4 (co (s:=[41]) (en:=en) w4);obtain⟨s5,q5⟩:∃s,aG [41] toks en s4=s:=⟨_,rfl⟩
 rw[q5] at n5 w5;have p6:=sO ⟨op,[],0,a2,a4,0⟩ toks en s5 hn w5;have hP:jp toks en E op st=(cu ⟨op,[],0,a2,a4,0⟩ s5,(s5.exprs.length:Int)):=by simp only[jp,q1,q2,q3,q4,q5]
 rw[hP];simp only;have hv:IntKind.i64.wrap ((d:Int)+1)=((d+1:Nat):Int):=by rw[am (by omega) (by omega)];omega
 refine aW (by rfl) ?_
 refine WpF.enter tabOk Tryz.func156 rfl (by show 3<=29;decide) ?_
 simp only[Tryz.f156];have H:=hv;refine zR ?_;refine WpC.seq ?_;refine WpC.region ?_;refine zO 1 ?_;refine zP [0,1,2] fe (n1) ?_;refine WpO.nil ?_;refine WpC.seq ?_;refine WpC.region ?_;refine zO 3 ?_;refine zP [0,3,4] f8 (x2) ?_;refine zO 1 ?_;refine WpO.nil ?_;refine WpC.seq ?_;refine WpC.region ?_;refine zO 1 ?_;refine zP [0,5,6] fe (n3) ?_;refine WpO.nil ?_;refine WpC.seq ?_;refine WpC.region ?_;refine zO 3 ?_;refine zP [0,7,8] f8 (x4) ?_;refine zO 1 ?_;refine WpO.nil ?_;refine WpC.seq ?_;refine WpC.region ?_;refine zO 1 ?_;refine zP [0,9,10] fe (n5) ?_;refine WpO.nil ?_;refine WpC.seq ?_;refine WpC.region ?_;refine zO 5 ?_;refine zP [0,11,12] dL (p6) ?_;refine zO 1 ?_;refine WpO.nil ?_;refine WpC.ret ?_;refine⟨.inr rfl,_,by simp -implicitDefEqProofs<;>rfl,⟨by simp,13,14,by omega,by omega,by omega,by simp,by simp,by simp⟩,by simp⟩
set_option maxHeartbeats 2000000 in
theorem BI (d:Nat) (hd:d<=20) (toks:List Tok) (en:Nat) (E F:PF) (hn:toks.length<=500000000) (htx:∀t∈toks,t.text.length<=500000000) (hE:eI 40 (d+1) toks en E) (gE:GRF toks E)
 (hF:eI 114 (d+1) toks en F) (gF:GRF toks F):eI 114 d toks en (dt toks en E F):=λst hw=>by
 have hd2:¬(20:Int)<d:=by omega
 have hv:IntKind.i64.wrap ((d:Int)+1)=((d+1:Nat):Int):=by rw[am (by omega) (by omega)];omega
 refine aW (by rfl) ?_
 by_cases he:st.err=0
 ·cases b1:bW [[45]] toks en st with
  |true=>
   have hP:dt toks en E F st=(cu ⟨[110,101,103],[],0,(F (ac st)).2,0,0⟩ (F (ac st)).1,((F (ac st)).1.exprs.length:Int)):=by rw[dt,if_neg (by simp[he]),if_pos b1]
   have t1:=fE [[45]] toks en st hn hw (by simp) b1
   simp only[List.map_cons,List.map_nil] at t1;have w1:=br hw b1;have x2:=hF _ w1;have w2:=aU w1 (gF _ w1);obtain⟨⟨s2,a2⟩,q2⟩:∃s,F (ac st)=s:=⟨_,rfl⟩
   rw[q2] at x2 w2 hP;simp only at x2 w2 hP;have p3:=sO ⟨[110,101,103],[],0,a2,0,0⟩ toks en s2 hn w2;rw[hP];simp only;refine WpF.enter tabOk Tryz.func114 rfl (by show 2<=62;decide) ?_
   simp only[Tryz.f114];have H:=And.intro hv (And.intro hd2 he);refine zR ?_;refine WpC.seq ?_;refine zR ?_;refine zF ?_;refine WpC.skip ?_;refine WpC.seq ?_;refine zR ?_;refine zF ?_;refine WpC.skip ?_;refine WpC.seq ?_;refine WpC.seq ?_;refine WpC.region ?_;refine zO 2 ?_;refine WpO.gh (Gh.frz [3]) ?_;refine zP [0,1,2] bk (t1) ?_;refine zO 5 ?_;refine WpO.nil ?_;refine zR ?_;refine zT ?_;refine WpC.seq ?_;refine WpC.region ?_;refine zO 4 ?_;refine zP [0,4,5] mJ (x2) ?_;refine zO 1 ?_;refine zP [0,6,7] dL (p3) ?_;refine zO 1 ?_;refine WpO.nil ?_;refine WpC.ret ?_;refine⟨.inr rfl,_,by simp -implicitDefEqProofs<;>rfl,⟨by simp,8,9,by omega,by omega,by omega,by simp,by simp,by simp⟩,by simp⟩
  |false=>
   have t1:=ie [[45]] toks en st hn hw (by simp) b1
   simp only[List.map_cons,List.map_nil] at t1;cases b2:bW [[109,105,110],[109,97,120]] toks en st with
   |true=>
    have hP:dt toks en E F st=jp toks en E (aV toks en st).text (ac st):=by rw[dt,if_neg (by simp[he]),if_neg (by simp[b1]),if_pos b2]
    have t2:=fE [[109,105,110],[109,97,120]] toks en st hn hw (by simp) b2
    simp only[List.map_cons,List.map_nil] at t2;have w1:=br hw b2;have x2:=vD d hd toks en E hn hE gE (aV toks en st).text (ac st) w1;obtain⟨⟨s2,a2⟩,q2⟩:∃s,jp toks en E (aV toks en st).text (ac st)=s:=⟨_,rfl⟩
    rw[q2] at x2 hP;simp only at x2;rw[hP];simp only;refine WpF.enter tabOk Tryz.func114 rfl (by show 2<=62;decide) ?_
    simp only[Tryz.f114];have H:=And.intro hv (And.intro hd2 he);refine zR ?_;refine WpC.seq ?_;refine zR ?_;refine zF ?_;refine WpC.skip ?_;refine WpC.seq ?_;refine zR ?_;refine zF ?_;refine WpC.skip ?_;refine WpC.seq ?_;refine WpC.seq ?_;refine WpC.region ?_;refine zO 2 ?_;refine WpO.gh (Gh.frz [3]) ?_;refine zP [0,1,2] bk (t1) ?_;refine zO 5 ?_;refine WpO.nil ?_;refine zR ?_;refine zF ?_;refine WpC.skip ?_;refine WpC.seq ?_;refine WpC.seq ?_;refine WpC.region ?_;refine zO 2 ?_;refine WpO.gh (Gh.frz [6]) ?_;refine zP [0,4,5] bk (t2) ?_;refine zO 5 ?_;refine WpO.nil ?_;refine zR ?_;refine zT ?_;refine WpC.seq ?_;refine WpC.region ?_;refine zO 3 ?_;refine zP [0,7,8] yl (x2) ?_;refine zO 1 ?_;refine WpO.nil ?_;refine WpC.ret ?_;refine⟨.inr rfl,_,by simp -implicitDefEqProofs<;>rfl,⟨by simp,9,10,by omega,by omega,by omega,by simp,by simp,by simp⟩,by simp⟩
   |false=>
    have t2:=ie [[109,105,110],[109,97,120]] toks en st hn hw (by simp) b2
    simp only[List.map_cons,List.map_nil] at t2;cases b3:bW [[40]] toks en st with
    |true=>
     have hP:dt toks en E F st=(aG [41] toks en (E (ac st)).1,(E (ac st)).2):=by rw[dt,if_neg (by simp[he]),if_neg (by simp[b1]),if_neg (by simp[b2]),if_pos b3]
     have t3:=fE [[40]] toks en st hn hw (by simp) b3
     simp only[List.map_cons,List.map_nil] at t3;have w1:=br hw b3;have x2:=hE _ w1;have w2:=aU w1 (gE _ w1);obtain⟨⟨s2,a2⟩,q2⟩:∃s,E (ac st)=s:=⟨_,rfl⟩
     rw[q2] at x2 w2 hP;simp only at x2 w2 hP;have n3:=gO [41] toks en s2 hn w2;rw[hP];simp only;refine WpF.enter tabOk Tryz.func114 rfl (by show 2<=62;decide) ?_
     simp only[Tryz.f114];have H:=And.intro hv (And.intro hd2 he);refine zR ?_;refine WpC.seq ?_;refine zR ?_;refine zF ?_;refine WpC.skip ?_;refine WpC.seq ?_;refine zR ?_;refine zF ?_;refine WpC.skip ?_;refine WpC.seq ?_;refine WpC.seq ?_;refine WpC.region ?_;refine zO 2 ?_;refine WpO.gh (Gh.frz [3]) ?_;refine zP [0,1,2] bk (t1) ?_;refine zO 5 ?_;refine WpO.nil ?_;refine zR ?_;refine zF ?_;refine WpC.skip ?_;refine WpC.seq ?_;refine WpC.seq ?_;refine WpC.region ?_;refine zO 2 ?_;refine WpO.gh (Gh.frz [6]) ?_;refine zP [0,4,5] bk (t2) ?_;refine zO 5 ?_;refine WpO.nil ?_;refine zR ?_;refine zF ?_;refine WpC.skip ?_;refine WpC.seq ?_;refine WpC.seq ?_;refine WpC.region ?_;refine zO 2 ?_;refine WpO.gh (Gh.frz [9]) ?_;refine zP [0,7,8] bk (t3) ?_;refine zO 5 ?_;refine WpO.nil ?_;refine zR ?_;refine zT ?_;refine WpC.seq ?_;refine WpC.region ?_;refine zO 3 ?_;refine zP [0,10,11] f8 (x2) ?_;refine zO 1 ?_;refine WpO.nil ?_;refine WpC.seq ?_;refine WpC.region ?_;refine zO 1 ?_;refine zP [0,12,13] fe (n3) ?_;refine WpO.nil ?_;refine zR ?_;refine WpC.ret ?_;refine⟨.inr rfl,_,by simp -implicitDefEqProofs<;>rfl,⟨by simp,14,15,by omega,by omega,by omega,by simp,by simp,by simp⟩,by simp⟩
    |false=>
     have hP:dt toks en E F st=gf toks en st:=by rw[dt,if_neg (by simp[he]),if_neg (by simp[b1]),if_neg (by simp[b2]),if_neg (by simp[b3])]
     have t3:=ie [[40]] toks en st hn hw (by simp) b3
     simp only[List.map_cons,List.map_nil] at t3;have htl:(aV toks en st).text.length<=500000000:=by
      by_cases h:st.pos<toks.length
      ·have:aV toks en st=toks[st.pos]:=by simp[aV,List.getD,h]
       rw[this];exact htx _ (List.getElem_mem h)
      ·rw[i8 h];simp
     have x2:=Bv toks en st hn (by unfold wfP at hw;omega) (by unfold wfP at hw;omega) htl
     rw[hP];obtain⟨⟨s2,a2⟩,q2⟩:∃s,gf toks en st=s:=⟨_,rfl⟩
     rw[q2] at x2 ⊢;simp only at x2 ⊢;refine WpF.enter tabOk Tryz.func114 rfl (by show 2<=62;decide) ?_
     simp only[Tryz.f114];have H:=And.intro hv (And.intro hd2 he);refine zR ?_;refine WpC.seq ?_;refine zR ?_;refine zF ?_;refine WpC.skip ?_;refine WpC.seq ?_;refine zR ?_;refine zF ?_;refine WpC.skip ?_;refine WpC.seq ?_;refine WpC.seq ?_;refine WpC.region ?_;refine zO 2 ?_;refine WpO.gh (Gh.frz [3]) ?_;refine zP [0,1,2] bk (t1) ?_;refine zO 5 ?_;refine WpO.nil ?_;refine zR ?_;refine zF ?_;refine WpC.skip ?_;refine WpC.seq ?_;refine WpC.seq ?_;refine WpC.region ?_;refine zO 2 ?_;refine WpO.gh (Gh.frz [6]) ?_;refine zP [0,4,5] bk (t2) ?_;refine zO 5 ?_;refine WpO.nil ?_;refine zR ?_;refine zF ?_;refine WpC.skip ?_;refine WpC.seq ?_;refine WpC.seq ?_;refine WpC.region ?_;refine zO 2 ?_;refine WpO.gh (Gh.frz [9]) ?_;refine zP [0,7,8] bk (t3) ?_;refine zO 5 ?_;refine WpO.nil ?_;refine zR ?_;refine zF ?_;refine WpC.skip ?_;refine WpC.seq ?_;refine WpC.region ?_;refine zO 1 ?_;refine zP [0,10,11] yk (x2) ?_;refine zO 1 ?_;refine WpO.nil ?_;refine WpC.ret ?_;refine⟨.inr rfl,_,by simp -implicitDefEqProofs<;>rfl,⟨by simp,12,13,by omega,by omega,by omega,by simp,by simp,by simp⟩,by simp⟩
 ·have hP:dt toks en E F st=(st,0):=by rw[dt,if_pos he]
  rw[hP];simp only;refine WpF.enter tabOk Tryz.func114 rfl (by show 2<=62;decide) ?_
  simp only[Tryz.f114];have H:=And.intro hd2 he;refine zR ?_;refine WpC.seq ?_;refine zR ?_;refine zF ?_;refine WpC.skip ?_;refine WpC.seq ?_;refine zR ?_;refine zT ?_;refine zR ?_;refine WpC.ret ?_;refine⟨.inr rfl,_,by simp -implicitDefEqProofs<;>rfl,⟨by simp,1,2,by omega,by omega,by omega,by simp,by simp,by simp⟩,by simp⟩
end Go.Proofs.YtlhmejigmokbhaaGreatDoor.Pay
