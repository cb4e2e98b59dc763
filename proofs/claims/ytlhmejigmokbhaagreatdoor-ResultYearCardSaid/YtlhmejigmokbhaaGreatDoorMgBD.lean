/- The texts TrF, TrG, TrH, one behind the other. No statement of the seed is proved here. -/
import Derived.Test.YtlhmejigmokbhaaGreatDoorMgBC
namespace Go.Proofs.YtlhmejigmokbhaaGreatDoor.Pay
open Go Go.RowKit
set_option linter.unusedVariables false
set_option linter.unusedSimpArgs false
set_option maxHeartbeats 2000000 in
theorem vE (d:Nat) (hd:d<=20) (toks:List Tok) (en:Nat) (E F:PF) (hn:toks.length<=500000000) (hE:eI 40 (d+1) toks en E) (gE:GRF toks E)
 (hS:eI 63 d toks en (jY toks en F)) (gS:GRF toks (jY toks en F)):eI 40 d toks en (fd toks en E F):=λst hw=>by
 have hd2:¬(20:Int)<d:=by omega
 have hv:IntKind.i64.wrap ((d:Int)+1)=((d+1:Nat):Int):=by rw[am (by omega) (by omega)];omega
 refine aW (by rfl) ?_
 by_cases he:st.err=0
 ·cases b1:bW [[105,102]] toks en st with
  |true=>
   have hP:fd toks en E F st=ifP toks en E st:=by rw[fd,if_neg (by simp[he]),if_pos b1]
   have t1:=fE [[105,102]] toks en st hn hw (by simp) b1
   simp only[List.map_cons,List.map_nil] at t1;have w0:=br hw b1;have x1:=hE _ w0;have w1:=aU w0 (gE _ w0);obtain⟨⟨s1,a1⟩,q1⟩:∃s,E (ac st)=s:=⟨_,rfl⟩
   rw[q1] at x1 w1;simp only at x1 w1;have n2:=gO [116,104,101,110] toks en s1 hn w1;have w2:=aU w1 (co (s:=[116,104,101,110]) (en:=en) w1);obtain⟨s2,q2⟩:∃s,aG [116,104,101,110] toks en s1=s:=⟨_,rfl⟩
   rw[q2] at n2 w2;have x3:=hE s2 w2;have w3:=aU w2 (gE s2 w2);obtain⟨⟨s3,a3⟩,q3⟩:∃s,E s2=s:=⟨_,rfl⟩
   rw[q3] at x3 w3;simp only at x3 w3;have n4:=gO [101,108,115,101] toks en s3 hn w3;have w4:=aU w3 (co (s:=[101,108,115,101]) (en:=en) w3);obtain⟨s4,q4⟩:∃s,aG [101,108,115,101] toks en s3=s:=⟨_,rfl⟩
   rw[q4] at n4 w4;have x5:=hE s4 w4;have w5:=aU w4 (gE s4 w4);obtain⟨⟨s5,a5⟩,q5⟩:∃s,E s4=s:=⟨_,rfl⟩
   rw[q5] at x5 w5;simp only at x5 w5;have p6:=sO ⟨[105,102],[],0,a1,a3,a5⟩ toks en s5 hn w5;have hQ:ifP toks en E st=(cu ⟨[105,102],[],0,a1,a3,a5⟩ s5,(s5.exprs.length:Int)):=by simp only[ifP,q1,q2,q3,q4,q5]
   rw[hP,hQ];simp only;refine WpF.enter tabOk Tryz.func40 rfl (by show 2<=72;decide) ?_
   simp only[Tryz.f40];have H:=And.intro hv (And.intro hd2 he);refine zR ?_;refine WpC.seq ?_;refine zR ?_;refine zF ?_;refine WpC.skip ?_;refine WpC.seq ?_;refine zR ?_;refine zF ?_;refine WpC.skip ?_;refine WpC.seq ?_;refine WpC.seq ?_;refine WpC.region ?_;refine zO 2 ?_;refine WpO.gh (Gh.frz [3]) ?_;refine zP [0,1,2] bk (t1) ?_;refine zO 5 ?_;refine WpO.nil ?_;refine zR ?_;refine zT ?_;refine WpC.seq ?_;refine WpC.region ?_;refine zO 3 ?_;refine zP [0,4,5] f8 (x1) ?_;refine zO 1 ?_;refine WpO.nil ?_;refine WpC.seq ?_;refine WpC.region ?_;refine zO 1 ?_;refine zP [0,6,7] fe (n2) ?_;refine WpO.nil ?_;refine WpC.seq ?_;refine WpC.region ?_;refine zO 3 ?_;refine zP [0,8,9] f8 (x3) ?_;refine zO 1 ?_;refine WpO.nil ?_;refine WpC.seq ?_;refine WpC.region ?_;refine zO 1 ?_;refine zP [0,10,11] fe (n4) ?_;refine WpO.nil ?_;refine WpC.seq ?_;refine WpC.region ?_;refine zO 3 ?_;refine zP [0,12,13] f8 (x5) ?_;refine zO 1 ?_;refine WpO.nil ?_;refine WpC.seq ?_;refine WpC.region ?_;refine zO 5 ?_;refine zP [0,14,15] dL (p6) ?_;refine zO 1 ?_;refine WpO.nil ?_;refine WpC.ret ?_;refine⟨.inr rfl,_,by simp -implicitDefEqProofs<;>rfl,⟨by simp,16,17,by omega,by omega,by omega,by simp,by simp,by simp⟩,by simp⟩
  |false=>
   have hP:fd toks en E F st=jG toks en F st:=by rw[fd,if_neg (by simp[he]),if_neg (by simp[b1])]
   have t1:=ie [[105,102]] toks en st hn hw (by simp) b1
   simp only[List.map_cons,List.map_nil] at t1;have x1:=hS st hw;have w1:=aU hw (gS st hw);obtain⟨⟨s1,a1⟩,q1⟩:∃s,jY toks en F st=s:=⟨_,rfl⟩
   rw[q1] at x1 w1;simp only at x1 w1;cases b2:bW va toks en s1 with
   |true=>
    have t2:=fE va toks en s1 hn w1 (by decide) b2
    simp only[va,List.map_cons,List.map_nil] at t2;have w2:=br w1 b2;have x3:=hS _ w2;have w3:=aU w2 (gS _ w2);obtain⟨⟨s3,a3⟩,q3⟩:∃s,jY toks en F (ac s1)=s:=⟨_,rfl⟩
    rw[q3] at x3 w3;simp only at x3 w3;have p4:=sO ⟨(aV toks en s1).text,[],0,a1,a3,0⟩ toks en s3 hn w3;have hQ:jG toks en F st=(cu ⟨(aV toks en s1).text,[],0,a1,a3,0⟩ s3,(s3.exprs.length:Int)):=by simp only[jG,q1,q3,b2,if_true]
    rw[hP,hQ];simp only;refine WpF.enter tabOk Tryz.func40 rfl (by show 2<=72;decide) ?_
    simp only[Tryz.f40];have H:=And.intro hv (And.intro hd2 he);refine zR ?_;refine WpC.seq ?_;refine zR ?_;refine zF ?_;refine WpC.skip ?_;refine WpC.seq ?_;refine zR ?_;refine zF ?_;refine WpC.skip ?_;refine WpC.seq ?_;refine WpC.seq ?_;refine WpC.region ?_;refine zO 2 ?_;refine WpO.gh (Gh.frz [3]) ?_;refine zP [0,1,2] bk (t1) ?_;refine zO 5 ?_;refine WpO.nil ?_;refine zR ?_;refine zF ?_;refine WpC.skip ?_;refine WpC.seq ?_;refine WpC.region ?_;refine zO 2 ?_;refine zP [0,4,5] pj (x1) ?_;refine zO 1 ?_;refine WpO.nil ?_;refine WpC.seq ?_;refine WpC.seq ?_;refine WpC.region ?_;refine zO 2 ?_;refine WpO.gh (Gh.frz [8]) ?_;refine zP [0,6,7] bk (t2) ?_;refine zO 5 ?_;refine WpO.nil ?_;refine zR ?_;refine zT ?_;refine WpC.seq ?_;refine WpC.region ?_;refine zO 2 ?_;refine zP [0,9,10] pj (x3) ?_;refine zO 1 ?_;refine WpO.nil ?_;refine WpC.seq ?_;refine WpC.region ?_;refine zO 5 ?_;refine zP [0,11,12] dL (p4) ?_;refine zO 1 ?_;refine WpO.nil ?_;refine WpC.ret ?_;refine⟨.inr rfl,_,by simp -implicitDefEqProofs<;>rfl,⟨by simp,13,14,by omega,by omega,by omega,by simp,by simp,by simp⟩,by simp⟩
   |false=>
    have t2:=ie va toks en s1 hn w1 (by decide) b2
    simp only[va,List.map_cons,List.map_nil] at t2;have hQ:jG toks en F st=(s1,a1):=by simp only[jG,q1,b2,Bool.false_eq_true,if_false]
    rw[hP,hQ];simp only;refine WpF.enter tabOk Tryz.func40 rfl (by show 2<=72;decide) ?_
    simp only[Tryz.f40];have H:=And.intro hv (And.intro hd2 he);refine zR ?_;refine WpC.seq ?_;refine zR ?_;refine zF ?_;refine WpC.skip ?_;refine WpC.seq ?_;refine zR ?_;refine zF ?_;refine WpC.skip ?_;refine WpC.seq ?_;refine WpC.seq ?_;refine WpC.region ?_;refine zO 2 ?_;refine WpO.gh (Gh.frz [3]) ?_;refine zP [0,1,2] bk (t1) ?_;refine zO 5 ?_;refine WpO.nil ?_;refine zR ?_;refine zF ?_;refine WpC.skip ?_;refine WpC.seq ?_;refine WpC.region ?_;refine zO 2 ?_;refine zP [0,4,5] pj (x1) ?_;refine zO 1 ?_;refine WpO.nil ?_;refine WpC.seq ?_;refine WpC.seq ?_;refine WpC.region ?_;refine zO 2 ?_;refine WpO.gh (Gh.frz [8]) ?_;refine zP [0,6,7] bk (t2) ?_;refine zO 5 ?_;refine WpO.nil ?_;refine zR ?_;refine zF ?_;refine WpC.skip ?_;refine zR ?_;refine WpC.ret ?_;refine⟨.inr rfl,_,by simp -implicitDefEqProofs<;>rfl,⟨by simp,9,10,by omega,by omega,by omega,by simp,by simp,by simp⟩,by simp⟩
 ·have hP:fd toks en E F st=(st,0):=by rw[fd,if_pos he]
  rw[hP];simp only;refine WpF.enter tabOk Tryz.func40 rfl (by show 2<=72;decide) ?_
  simp only[Tryz.f40];have H:=And.intro hd2 he;refine zR ?_;refine WpC.seq ?_;refine zR ?_;refine zF ?_;refine WpC.skip ?_;refine WpC.seq ?_;refine zR ?_;refine zT ?_;refine zR ?_;refine WpC.ret ?_;refine⟨.inr rfl,_,by simp -implicitDefEqProofs<;>rfl,⟨by simp,1,2,by omega,by omega,by omega,by simp,by simp,by simp⟩,by simp⟩
theorem uV (toks:List Tok) (en:Nat) (hn:toks.length<=500000000):eI 40 21 toks en (λst=>(bD toks en 9 st,0)):=λst hw=>by
 have hf:=fY toks en st 9 hn;have he:=cR (toks:=toks) (en:=en) (e:=9) (by decide) st
 obtain⟨s1,q1⟩:∃s,bD toks en 9 st=s:=⟨_,rfl⟩
 rw[q1] at hf he;simp only[q1];have hd2:(20:Int)<((21:Nat):Int):=by decide
 refine aW (by rfl) ?_
 refine WpF.enter tabOk Tryz.func40 rfl (by show 2<=72;decide) ?_
 simp only[Tryz.f40];have H:=he;refine zR ?_;refine WpC.seq ?_;refine zR ?_;refine zT ?_;refine WpC.region ?_;refine zO 1 ?_;refine zP [0,1,2] ff (hf) ?_;refine WpO.nil ?_;refine WpC.seq ?_;refine zR ?_;refine zT ?_;refine zR ?_;refine WpC.ret ?_;refine⟨.inr rfl,_,by simp -implicitDefEqProofs<;>rfl,⟨by simp,3,4,by omega,by omega,by omega,by simp,by simp,by simp⟩,by simp⟩
theorem uU (toks:List Tok) (en:Nat) (hn:toks.length<=500000000):eI 114 21 toks en (λst=>(bD toks en 9 st,0)):=λst hw=>by
 have hf:=fY toks en st 9 hn;have he:=cR (toks:=toks) (en:=en) (e:=9) (by decide) st
 obtain⟨s1,q1⟩:∃s,bD toks en 9 st=s:=⟨_,rfl⟩
 rw[q1] at hf he;simp only[q1];have hd2:(20:Int)<((21:Nat):Int):=by decide
 refine aW (by rfl) ?_
 refine WpF.enter tabOk Tryz.func114 rfl (by show 2<=62;decide) ?_
 simp only[Tryz.f114];have H:=he;refine zR ?_;refine WpC.seq ?_;refine zR ?_;refine zT ?_;refine WpC.region ?_;refine zO 1 ?_;refine zP [0,1,2] ff (hf) ?_;refine WpO.nil ?_;refine WpC.seq ?_;refine zR ?_;refine zT ?_;refine zR ?_;refine WpC.ret ?_;refine⟨.inr rfl,_,by simp -implicitDefEqProofs<;>rfl,⟨by simp,3,4,by omega,by omega,by omega,by simp,by simp,by simp⟩,by simp⟩
theorem wS (toks:List Tok) (en:Nat) (hn:toks.length<=500000000) (htx:∀t∈toks,t.text.length<=500000000):∀R d,d+R=21->
 eI 40 d toks en (lev toks en R).1/\eI 114 d toks en (lev toks en R).2
 |0,d,h=>by
  obtain rfl:d=21:=by omega
  exact⟨uV toks en hn,uU toks en hn⟩
 |R+1,d,h=>by
  obtain⟨hE,hF⟩:=wS toks en hn htx R (d+1) (by omega)
  obtain⟨gE,gF⟩:=gU (toks:=toks) (en:=en) R;have f1:=BI d (by omega) toks en _ _ hn htx hE gE hF gF
  have gf1:=my (en:=en) gE gF;have p1:=vC d toks en _ hn f1 gf1;have gp1:=l8 (en:=en) gf1;have s1:=yZ d toks en _ hn p1 gp1;have gs1:=oz (en:=en) gf1;exact⟨vE d (by omega) toks en _ _ hn hE gE s1 gs1,f1⟩
theorem dG:ah Tryz.prog 35 [] (.d (.list 1 [.str [101,97,114,110],.str [112,114,101,116,97,120],.str [112,111,115,116],.str [108,101,116]])):=by
 refine ah.enter tabOk Tryz.func35 rfl (by show 0<=2;decide) ?_
 simp only[Tryz.f35];have H:=trivial;iterate 2 refine zR ?_
 refine WpC.ret ?_;try simp only[aa,aj]
 refine zE ?_;simp -implicitDefEqProofs[H]
def da (toks:List Tok) (en:Nat) (st:Ps):Ps:=
 let t:=aV toks en st
 if 60<=st.rules.length/\t.kind=1/\inW ko t.text=true then bD toks en 9 st
 else if bW ko toks en st=true then
  let m:=aV toks en (ac st)
  if m.kind=1/\me m.text=true then
   let r:=(lev toks en 20).1 (aG [61] toks en (ac (ac st)))
   let s5:=aG [59] toks en r.1
   ⟨s5.pos,s5.rules++[⟨t.text,m.text,r.2⟩],s5.exprs,s5.err,s5.place⟩
  else bD toks en 2 (ac st)
 else bD toks en 2 st
section
variable {toks:List Tok} {en:Nat}
def KR (F:PF):Prop:=∀st,(F st).1.rules=st.rules
theorem cV (s:List UInt8) (st:Ps):(aG s toks en st).rules=st.rules:=by
 unfold aG;split
 ·rfl
 ·exact(fX 2 st).2.2
theorem pY {F:PF} (hF:KR F):∀f st a,(fJ toks en F f st a).1.rules=st.rules
 |0,st,a=>rfl
 |f+1,st,a=>by
  unfold fJ;split
  ·rw[pY hF f];exact hF (ac st)
  ·rfl
theorem pX {F:PF} (hF:KR F):KR (ck toks en F):=λst=>(pY hF _ _ _).trans (hF st)
theorem sD {F:PF} (hF:KR F):∀f st a,(jZ toks en F f st a).1.rules=st.rules
 |0,st,a=>rfl
 |f+1,st,a=>by
  unfold jZ;split
  ·rw[sD hF f];exact hF (ac st)
  ·rfl
theorem ow {F:PF} (hF:KR F):KR (jY toks en F):=λst=>(sD (pX hF) _ _ _).trans (pX hF st)
theorem wV:KR (gf toks en):=λst=>by
 unfold gf;split
 ·rfl
 ·exact(fX _ st).2.2
theorem qE {E F:PF} (hE:KR E) (hF:KR F):KR (dt toks en E F):=λst=>by
 unfold dt;split
 ·rfl
 ·split
  ·exact hF (ac st)
  ·split
   ·show(aG [41] toks en (E (aG [44] toks en (E (aG [40] toks en (ac st))).1)).1).rules=st.rules
    rw[cV,hE,cV,hE,cV];rfl
   ·split
    ·show(aG [41] toks en (E (ac st)).1).rules=st.rules
     rw[cV,hE];rfl
    ·exact wV st
theorem xA {E F:PF} (hE:KR E) (hF:KR F):KR (fd toks en E F):=λst=>by
 unfold fd;split
 ·rfl
 ·split
  ·show(E (aG [101,108,115,101] toks en (E (aG [116,104,101,110] toks en (E (ac st)).1)).1)).1.rules=st.rules
   rw[hE,cV,hE,cV,hE];rfl
  ·unfold jG;simp only;split
   ·show(jY toks en F (ac (jY toks en F st).1)).1.rules=st.rules
    rw[ow hF];exact ow hF st
   ·exact ow hF st
theorem gR:∀R,KR (lev toks en R).1/\KR (lev toks en R).2
 |0=>⟨λst=>(fX 9 st).2.2,λst=>(fX 9 st).2.2⟩
 |R+1=>⟨xA (gR R).1 (qE (gR R).1 (gR R).2),qE (gR R).1 (gR R).2⟩
end
set_option maxHeartbeats 2000000 in
theorem AV (toks:List Tok) (en:Nat) (hn:toks.length<=500000000) (htx:∀t∈toks,t.text.length<=500000000) (st:Ps) (hw:wfP toks st) (hr:st.rules.length<=500000000):
 WpF Tryz.prog 18 [.ref 0 0] (S0 toks en st) λr S=>r= .tup []/\S=S2 toks en (da toks en st):=by
 have htk:=gy toks en st hn;have hcn:=mD ko (aV toks en st).text (by decide)
 have hR:da toks en st=if 60<=st.rules.length/\(aV toks en st).kind=1/\inW ko (aV toks en st).text=true then bD toks en 9 st else da toks en st:=by
  split
  ·rename_i h;rw[da,if_pos h]
  ·rfl
 have hR2:¬(60<=st.rules.length/\(aV toks en st).kind=1/\inW ko (aV toks en st).text=true)->da toks en st=if bW ko toks en st=true then(if (aV toks en (ac st)).kind=1/\me (aV toks en (ac st)).text=true then
  ⟨(aG [59] toks en ((lev toks en 20).1 (aG [61] toks en (ac (ac st)))).1).pos,(aG [59] toks en ((lev toks en 20).1 (aG [61] toks en (ac (ac st)))).1).rules++[⟨(aV toks en st).text,(aV toks en (ac st)).text,((lev toks en 20).1 (aG [61] toks en (ac (ac st)))).2⟩],(aG [59] toks en ((lev toks en 20).1 (aG [61] toks en (ac (ac st)))).1).exprs,(aG [59] toks en ((lev toks en 20).1 (aG [61] toks en (ac (ac st)))).1).err,(aG [59] toks en ((lev toks en 20).1 (aG [61] toks en (ac (ac st)))).1).place⟩
  else bD toks en 2 (ac st)) else bD toks en 2 st:=λh=>by rw[da,if_neg h]
 obtain⟨t,hpp⟩:∃p,aV toks en st=p:=⟨_,rfl⟩
 have htt:=λ(ws:List (List UInt8)) h h2=>fE ws toks en st hn hw h h2
 rw[hpp] at htk hcn hR hR2 htt;obtain⟨d,hd⟩:∃d,inW ko t.text=d:=⟨_,rfl⟩
 rw[hd] at hcn hR hR2;simp only[ko,List.map_cons,List.map_nil] at hcn;refine aW (by rfl) ?_
 by_cases hA:60<=st.rules.length/\t.kind=1/\d=true
 ·have hf:=fY toks en st 9 hn;rw[if_pos hA] at hR;rw[hR];obtain⟨h6,hk,rfl⟩:=hA;have h7:(60:Int)<=st.rules.length:=by omega
  refine WpF.enter tabOk Tryz.func18 rfl (by show 1<=81;decide) ?_
  simp only[Tryz.f18];have H:=And.intro h7 hk;refine WpC.seq ?_;refine WpC.region ?_;refine zO 1 ?_;refine zP [0,1,2] bX (htk) ?_;refine zO 2 ?_;refine WpO.nil ?_;refine WpC.seq ?_;refine WpC.seq ?_;refine WpC.val 26 (.d (.bool (true))) ?_ ?_
  ·refine WpC.drawn tabOk (by kernel_rfl) 0 (by simp) ?_
   iterate 2 refine yO 3 ?_
   refine yO 2 ?_;refine yS 16 (λg16=>?_) (λg16=>?_)
   ·try(exfalso;revert g16;simp;done)
    all_goals
     have g16':=zN g16;replace H:=And.intro g16 H;refine yO 3 ?_;refine yO 2 ?_;refine yS 21 (λg21=>?_) (λg21=>?_)
     ·try(exfalso;revert g21;simp;done)
      all_goals
       have g21':=zN g21;replace H:=And.intro g21 H;refine yG fg (dG) ?_;refine yO 2 ?_;refine yG dv (hcn) ?_;refine yO 1 ?_;refine DrO.nil ⟨by kernel_rfl,?_⟩
       refine⟨rfl,Gh.only 26 18 ?_ (by first|rfl|simp -implicitDefEqProofs[H]) (by rfl)⟩
       simp -implicitDefEqProofs[H,g16',g21']<;>omega
     ·try(exfalso;revert g21;simp;done)
      all_goals
       have g21':=zN g21;replace H:=And.intro g21 H;refine yO 3 ?_;refine yO 2 ?_;refine DrO.nil ⟨by kernel_rfl,?_⟩
       refine⟨rfl,Gh.only 26 18 ?_ (by first|rfl|simp -implicitDefEqProofs[H]) (by rfl)⟩
       simp -implicitDefEqProofs[H,g16',g21']<;>omega
   ·try(exfalso;revert g16;simp;done)
    all_goals
     have g16':=zN g16;replace H:=And.intro g16 H;iterate 3 refine yO 3 ?_
     refine yO 1 ?_;refine DrO.nil ⟨by kernel_rfl,?_⟩
     refine⟨rfl,Gh.only 26 18 ?_ (by first|rfl|simp -implicitDefEqProofs[H]) (by rfl)⟩
     simp -implicitDefEqProofs[H,g16']<;>omega
  refine zT ?_;refine WpC.seq ?_;refine WpC.region ?_;refine zO 1 ?_;refine zP [0,3,4] ff (hf) ?_;refine WpO.nil ?_;refine WpC.ret ?_;refine⟨.inr rfl,_,by simp -implicitDefEqProofs<;>rfl,⟨by simp,6,7,by omega,by omega,by omega,by simp,by simp,by simp⟩,by simp⟩
 ·have hA2:(60:Int)<=st.rules.length->t.kind=1->d=false:=λh1 h2=>by
   cases d with
   |false=>rfl
   |true=>exact absurd ⟨by omega,h2,rfl⟩ hA
  have hR3:=hR2 hA;cases b1:bW ko toks en st with
  |false=>
   rw[b1,if_neg (by simp)] at hR3
   have hf:=fY toks en st 2 hn;have t1:=ie ko toks en st hn hw (by decide) b1
   simp only[ko,List.map_cons,List.map_nil] at t1;rw[hR3];refine WpF.enter tabOk Tryz.func18 rfl (by show 1<=81;decide) ?_
   simp only[Tryz.f18];have H:=hA2;refine WpC.seq ?_;refine WpC.region ?_;refine zO 1 ?_;refine zP [0,1,2] bX (htk) ?_;refine zO 2 ?_;refine WpO.nil ?_;refine WpC.seq ?_;refine WpC.seq ?_;refine WpC.val 26 (.d (.bool (false))) ?_ ?_
   ·refine WpC.drawn tabOk (by kernel_rfl) 0 (by simp) ?_
    iterate 2 refine yO 3 ?_
    refine yO 2 ?_;refine yS 16 (λg16=>?_) (λg16=>?_)
    ·have g16':=zN g16;replace H:=And.intro g16 H;refine yO 3 ?_;refine yO 2 ?_;refine yS 21 (λg21=>?_) (λg21=>?_)
     ·have g21':=zN g21;replace H:=And.intro g21 H;refine yG fg (dG) ?_;refine yO 2 ?_;refine yG dv (hcn) ?_;refine yO 1 ?_;refine DrO.nil ⟨by kernel_rfl,?_⟩
      refine⟨rfl,Gh.only 26 18 ?_ (by first|rfl|simp -implicitDefEqProofs[H]) (by rfl)⟩
      simp -implicitDefEqProofs[H,g16',g21']<;>omega
     have g21':=zN g21;replace H:=And.intro g21 H;refine yO 3 ?_;refine yO 2 ?_;refine DrO.nil ⟨by kernel_rfl,?_⟩
     refine⟨rfl,Gh.only 26 18 ?_ (by first|rfl|simp -implicitDefEqProofs[H]) (by rfl)⟩
     simp -implicitDefEqProofs[H,g16',g21']<;>omega
    have g16':=zN g16;replace H:=And.intro g16 H;iterate 3 refine yO 3 ?_
    refine yO 1 ?_;refine DrO.nil ⟨by kernel_rfl,?_⟩
    refine⟨rfl,Gh.only 26 18 ?_ (by first|rfl|simp -implicitDefEqProofs[H]) (by rfl)⟩
    simp -implicitDefEqProofs[H,g16']<;>omega
   refine zF ?_;refine WpC.skip ?_;refine WpC.seq ?_;refine WpC.region ?_;refine zO 1 ?_;refine zG fg (dG) ?_;refine zP [0,3,4] bk (t1) ?_;refine zO 5 ?_;refine WpO.nil ?_;refine WpC.seq ?_;refine zR ?_;refine zT ?_;refine WpC.seq ?_;refine WpC.region ?_;refine zO 1 ?_;refine zP [0,6,7] ff (hf) ?_;refine WpO.nil ?_;refine WpC.ret ?_;refine⟨.inr rfl,_,by simp -implicitDefEqProofs<;>rfl,⟨by simp,8,9,by omega,by omega,by omega,by simp,by simp,by simp⟩,by simp⟩
  |true=>
   rw[b1,if_pos rfl] at hR3;have t1:=htt ko (by decide) b1
   simp only[ko,List.map_cons,List.map_nil] at t1;have w1:=br hw b1;have htk2:=gy toks en (ac st) hn;obtain⟨s1,q1⟩:∃s,ac st=s:=⟨_,rfl⟩
   have hr1:s1.rules=st.rules:=by rw[<-q1];rfl
   rw[q1] at hR3 t1 w1 htk2;have hend:(aV toks en s1).kind=1->s1.pos<toks.length:=λhk=>by
    refine Decidable.byContradiction λhc=>?_
    rw[i8 hc] at hk;simp at hk
   obtain⟨m,hm⟩:∃m,aV toks en s1=m:=⟨_,rfl⟩
   have hnb:=sZ m.text;rw[hm] at hR3 htk2 hend;by_cases hN:m.kind=1/\me m.text=true
   ·rw[if_pos hN] at hR3;obtain⟨hk1,hk2⟩:=hN;rw[hk2] at hnb;have hp1:=hend hk1;have w2:wfP toks (ac s1):=by unfold wfP ac at*;simp only;omega
    have hw1:IntKind.i64.wrap ((s1.pos:Int)+1)=s1.pos+1:=am (by omega) (by omega)
    have n2:=gO [61] toks en (ac s1) hn w2;have w3:=aU w2 (co (s:=[61]) (en:=en) w2);have kr3:(aG [61] toks en (ac s1)).rules=st.rules:=(cV _ _).trans hr1;obtain⟨s3,q3⟩:∃s,aG [61] toks en (ac s1)=s:=⟨_,rfl⟩
    rw[q3] at n2 w3 hR3 kr3;rw[show ac s1=⟨s1.pos+1,s1.rules,s1.exprs,s1.err,s1.place⟩ from rfl] at n2
    have x4:=(wS toks en hn htx 20 1 (by rfl)).1 s3 w3
    have w4:=aU w3 ((gU (toks:=toks) (en:=en) 20).1 s3 w3);have kr4:=((gR (toks:=toks) (en:=en) 20).1 s3).trans kr3;obtain⟨⟨s4,a4⟩,q4⟩:∃s,(lev toks en 20).1 s3=s:=⟨_,rfl⟩
    rw[q4] at x4 w4 hR3 kr4;simp only at x4 w4 hR3 kr4;have n5:=gO [59] toks en s4 hn w4;have kr5:=(cV (toks:=toks) (en:=en) [59] s4).trans kr4;obtain⟨s5,q5⟩:∃s,aG [59] toks en s4=s:=⟨_,rfl⟩
    rw[q5] at n5 hR3 kr5;have hkr:s5.rules.length<=8589934591:=by rw[kr5];omega
    rw[hR3];refine WpF.enter tabOk Tryz.func18 rfl (by show 1<=81;decide) ?_
    simp only[Tryz.f18];have H:=And.intro hA2 (And.intro hk1 (And.intro hw1 hkr));refine WpC.seq ?_;refine WpC.region ?_;refine zO 1 ?_;refine zP [0,1,2] bX (htk) ?_;refine zO 2 ?_;refine WpO.nil ?_;refine WpC.seq ?_;refine WpC.seq ?_;refine WpC.val 26 (.d (.bool (false))) ?_ ?_
    ·refine WpC.drawn tabOk (by kernel_rfl) 0 (by simp) ?_
     iterate 2 refine yO 3 ?_
     refine yO 2 ?_;refine yS 16 (λg16=>?_) (λg16=>?_)
     ·have g16':=zN g16;replace H:=And.intro g16 H;refine yO 3 ?_;refine yO 2 ?_;refine yS 21 (λg21=>?_) (λg21=>?_)
      ·have g21':=zN g21;replace H:=And.intro g21 H;refine yG fg (dG) ?_;refine yO 2 ?_;refine yG dv (hcn) ?_;refine yO 1 ?_;refine DrO.nil ⟨by kernel_rfl,?_⟩
       refine⟨rfl,Gh.only 26 18 ?_ (by first|rfl|simp -implicitDefEqProofs[H]) (by rfl)⟩
       simp -implicitDefEqProofs[H,g16',g21']<;>omega
      have g21':=zN g21;replace H:=And.intro g21 H;refine yO 3 ?_;refine yO 2 ?_;refine DrO.nil ⟨by kernel_rfl,?_⟩
      refine⟨rfl,Gh.only 26 18 ?_ (by first|rfl|simp -implicitDefEqProofs[H]) (by rfl)⟩
      simp -implicitDefEqProofs[H,g16',g21']<;>omega
     have g16':=zN g16;replace H:=And.intro g16 H;iterate 3 refine yO 3 ?_
     refine yO 1 ?_;refine DrO.nil ⟨by kernel_rfl,?_⟩
     refine⟨rfl,Gh.only 26 18 ?_ (by first|rfl|simp -implicitDefEqProofs[H]) (by rfl)⟩
     simp -implicitDefEqProofs[H,g16']<;>omega
    refine zF ?_;refine WpC.skip ?_;refine WpC.seq ?_;refine WpC.region ?_;refine zO 1 ?_;refine zG fg (dG) ?_;refine zP [0,3,4] bk (t1) ?_;refine zO 5 ?_;refine WpO.nil ?_;refine WpC.seq ?_;refine zR ?_;refine zF ?_;refine WpC.skip ?_;refine WpC.seq ?_;refine WpC.region ?_;refine zO 1 ?_;refine zP [0,6,7] bX (htk2) ?_;refine zO 2 ?_;refine WpO.nil ?_;refine WpC.seq ?_;refine WpC.seq ?_;refine WpC.val 49 (.d (.bool (false))) ?_ ?_
    ·refine WpC.region ?_;refine zO 4 ?_;refine zS 44 (λg44=>?_) (λg44=>?_)
     ·try(exfalso;revert g44;simp;done)
      all_goals
       have g44':=zN g44;replace H:=And.intro g44 H;refine zO 5 ?_;refine WpO.nil ?_;refine⟨rfl,Gh.only 49 10 ?_ (by first|rfl|simp -implicitDefEqProofs[H]) (by rfl)⟩
       simp -implicitDefEqProofs[H,g44']<;>omega
     ·try(exfalso;revert g44;simp;done)
      all_goals
       have g44':=zN g44;replace H:=And.intro g44 H;refine zO 2 ?_;refine zG ly (hnb) ?_;refine zO 2 ?_;refine WpO.nil ?_;refine⟨rfl,Gh.only 49 10 ?_ (by first|rfl|simp -implicitDefEqProofs[H]) (by rfl)⟩
       simp -implicitDefEqProofs[H,g44']<;>omega
    refine zF ?_;refine WpC.skip ?_;refine zR ?_;refine WpC.seq ?_;refine WpC.region ?_;refine zO 1 ?_;refine zP [0,8,9] fe (n2) ?_;refine WpO.nil ?_;refine WpC.seq ?_;refine WpC.region ?_;refine zO 1 ?_;refine zP [0,11,12] f8 (x4) ?_;refine zO 1 ?_;refine WpO.nil ?_;refine WpC.seq ?_;refine WpC.region ?_;refine zO 1 ?_;refine zP [0,13,14] fe (n5) ?_;refine WpO.nil ?_;refine WpC.drawn tabOk (by kernel_rfl) 2 (by simp) ?_
    iterate 5 refine yO 3 ?_
    refine yO 2 ?_;refine DrO.nil ⟨by kernel_rfl,?_⟩
    refine⟨.inl rfl,_,by simp -implicitDefEqProofs<;>rfl,⟨by simp,18,16,by omega,by omega,by omega,by simp,by simp,by simp⟩,by simp⟩
   ·rw[if_neg hN] at hR3;have hB:m.kind=1->me m.text=false:=λh1=>by
     cases hx:me m.text with
     |false=>rfl
     |true=>exact absurd ⟨h1,hx⟩ hN
    have hf:=fY toks en s1 2 hn;rw[hR3];refine WpF.enter tabOk Tryz.func18 rfl (by show 1<=81;decide) ?_
    simp only[Tryz.f18];have H:=And.intro hA2 hB;refine WpC.seq ?_;refine WpC.region ?_;refine zO 1 ?_;refine zP [0,1,2] bX (htk) ?_;refine zO 2 ?_;refine WpO.nil ?_;refine WpC.seq ?_;refine WpC.seq ?_;refine WpC.val 26 (.d (.bool (false))) ?_ ?_
    ·refine WpC.drawn tabOk (by kernel_rfl) 0 (by simp) ?_
     iterate 2 refine yO 3 ?_
     refine yO 2 ?_;refine yS 16 (λg16=>?_) (λg16=>?_)
     ·have g16':=zN g16;replace H:=And.intro g16 H;refine yO 3 ?_;refine yO 2 ?_;refine yS 21 (λg21=>?_) (λg21=>?_)
      ·have g21':=zN g21;replace H:=And.intro g21 H;refine yG fg (dG) ?_;refine yO 2 ?_;refine yG dv (hcn) ?_;refine yO 1 ?_;refine DrO.nil ⟨by kernel_rfl,?_⟩
       refine⟨rfl,Gh.only 26 18 ?_ (by first|rfl|simp -implicitDefEqProofs[H]) (by rfl)⟩
       simp -implicitDefEqProofs[H,g16',g21']<;>omega
      have g21':=zN g21;replace H:=And.intro g21 H;refine yO 3 ?_;refine yO 2 ?_;refine DrO.nil ⟨by kernel_rfl,?_⟩
      refine⟨rfl,Gh.only 26 18 ?_ (by first|rfl|simp -implicitDefEqProofs[H]) (by rfl)⟩
      simp -implicitDefEqProofs[H,g16',g21']<;>omega
     have g16':=zN g16;replace H:=And.intro g16 H;iterate 3 refine yO 3 ?_
     refine yO 1 ?_;refine DrO.nil ⟨by kernel_rfl,?_⟩
     refine⟨rfl,Gh.only 26 18 ?_ (by first|rfl|simp -implicitDefEqProofs[H]) (by rfl)⟩
     simp -implicitDefEqProofs[H,g16']<;>omega
    refine zF ?_;refine WpC.skip ?_;refine WpC.seq ?_;refine WpC.region ?_;refine zO 1 ?_;refine zG fg (dG) ?_;refine zP [0,3,4] bk (t1) ?_;refine zO 5 ?_;refine WpO.nil ?_;refine WpC.seq ?_;refine zR ?_;refine zF ?_;refine WpC.skip ?_;refine WpC.seq ?_;refine WpC.region ?_;refine zO 1 ?_;refine zP [0,6,7] bX (htk2) ?_;refine zO 2 ?_;refine WpO.nil ?_;refine WpC.seq ?_;refine WpC.seq ?_;refine WpC.val 49 (.d (.bool (true))) ?_ ?_
    ·refine WpC.region ?_;refine zO 4 ?_;refine zS 44 (λg44=>?_) (λg44=>?_)
     ·have g44':=zN g44;replace H:=And.intro g44 H;refine zO 5 ?_;refine WpO.nil ?_;refine⟨rfl,Gh.only 49 10 ?_ (by first|rfl|simp -implicitDefEqProofs[H]) (by rfl)⟩
      simp -implicitDefEqProofs[H,g44']
     have g44':=zN g44;replace H:=And.intro g44 H;refine zO 2 ?_;refine zG ly (hnb) ?_;refine zO 2 ?_;refine WpO.nil ?_;refine⟨rfl,Gh.only 49 10 ?_ (by first|rfl|simp -implicitDefEqProofs[H]) (by rfl)⟩
     simp -implicitDefEqProofs[H,g44']
    refine zT ?_;refine WpC.seq ?_;refine WpC.region ?_;refine zO 1 ?_;refine zP [0,8,9] ff (hf) ?_;refine WpO.nil ?_;refine WpC.ret ?_;refine⟨.inr rfl,_,by simp -implicitDefEqProofs<;>rfl,⟨by simp,11,12,by omega,by omega,by omega,by simp,by simp,by simp⟩,by simp⟩
def cB (toks:List Tok) (en:Nat):Nat->Ps->Ps
 |0,st=>st
 |f+1,st=>if st.pos<toks.length/\st.err=0 then cB toks en f (da toks en st) else st
def ps0:Ps:=⟨0,[],[],0,0⟩
def bR (s:List UInt8):List Ru×List Ex×Int×Int:=
 match oV s with
 | .error a=>([],[],a,2)
 | .ok toks=>
  let st:=cB toks s.length (toks.length+1) ps0
  if st.err=0 then(st.rules,st.exprs,0,0) else([],[],st.place,st.err)
def jF (p:List Ru×List Ex×Int×Int):FV:= .tup [.d (.agg [aL p.1,aM p.2.1]),.d (dI p.2.2.1),.d (dI p.2.2.2)]
section
variable {toks:List Tok} {en:Nat}
theorem sL (st:Ps) (hw:wfP toks st) (hr:st.rules.length<=st.pos) (hlt:st.pos<toks.length):wfP toks (da toks en st)/\(da toks en st).rules.length<=(da toks en st).pos/\((da toks en st).err=0->st.pos<(da toks en st).pos):=by
 have hfl:∀(e:Int) (s1:Ps),e≠0->wfP toks s1->s1.rules.length<=s1.pos->wfP toks (bD toks en e s1)/\(bD toks en e s1).rules.length<=(bD toks en e s1).pos/\((bD toks en e s1).err=0->st.pos<(bD toks en e s1).pos):=λe s1 he w1 h1=>by
  have h:=fX (toks:=toks) (en:=en) e s1;refine⟨aU w1 (jD w1),by rw[h.1,h.2.2];exact h1,λh0=>absurd h0 (cR he s1)⟩
 unfold da;simp only;split
 ·exact hfl 9 st (by decide) hw hr
 ·split
  ·rename_i h;have w1:=br hw h;split
   ·rename_i hm;have hp:(ac st).pos<toks.length:=by
     refine Decidable.byContradiction λhc=>?_
     rw[i8 hc] at hm;simp at hm
    have w2:wfP toks (ac (ac st)):=by unfold wfP ac at*;simp only at*;omega
    have g3:=co (s:=[61]) (en:=en) w2;have g4:=(gU (toks:=toks) (en:=en) 20).1 _ (aU w2 g3);have g5:=co (s:=[59]) (en:=en) (aU (aU w2 g3) g4);have g:=bC g3 (bC g4 g5);have kr:(aG [59] toks en ((lev toks en 20).1 (aG [61] toks en (ac (ac st)))).1).rules=st.rules:=by
     rw[cV,(gR 20).1,cV];rfl
    obtain⟨z,hz⟩:∃z,aG [59] toks en ((lev toks en 20).1 (aG [61] toks en (ac (ac st)))).1=z:=⟨_,rfl⟩
    rw[hz] at g kr ⊢;unfold gr ac at g;unfold wfP at hw ⊢;simp only[List.length_append,List.length_cons,List.length_nil,kr] at g ⊢;refine⟨by omega,by omega,λ_=>by omega⟩
   ·exact hfl 2 _ (by decide) w1 (by show st.rules.length<=st.pos+1;omega)
  ·exact hfl 2 st (by decide) hw hr
end
theorem gQ:∀f a s l,jw f a s= .ok l->l.length<=f/\∀t∈l,t.text.length<=s.length
 |0,a,s,l,h=>by simp only[jw] at h;cases h;simp
 |f+1,a,[],l,h=>by simp only[jw] at h;cases h;simp
 |f+1,a,c::r,l,h=>by
  rw[jw] at h;have hd:∀n,((c::r).drop n).length<=(c::r).length:=λn=>by rw[List.length_drop];omega
  split at h
  ·have:=gQ f _ _ _ h;exact⟨by omega,λt ht=>by have:=this.2 t ht;rw[List.length_cons];omega⟩
  ·split at h
   ·have:=gQ f _ _ _ h;exact⟨by omega,λt ht=>Nat.le_trans (this.2 t ht) (hd _)⟩
   ·split at h
    ·cases h
    ·split at h
     ·cases h
     ·rename_i l2 h2;cases h;have:=gQ f _ _ _ h2;refine⟨by rw[List.length_cons];omega,λt ht=>?_⟩
      rcases List.mem_cons.1 ht with rfl|ht
      ·simp only[List.length_take];omega
      ·exact Nat.le_trans (this.2 t ht) (hd _)
set_option maxHeartbeats 2000000 in
theorem gM (s:List UInt8) (h:s.length<=499999999):ah Tryz.prog 11 [.d (.str s)] (jF (bR s)):=by
 have hlx:=Bu s (by omega)
 cases hl:oV s with
 |error a=>
  have hP:bR s=([],[],(a:Int),2):=by rw[bR,hl]
  rw[hl] at hlx;simp only[qK] at hlx;rw[hP];simp only[jF];refine ah.enter tabOk Tryz.func11 rfl (by show 1<=59;decide) ?_
  simp only[Tryz.f11];have H:=trivial;refine zR ?_;refine WpC.seq ?_;refine WpC.region ?_;refine zO 1 ?_;refine zG tT (hlx) ?_;refine zO 7 ?_;refine WpO.nil ?_;refine WpC.seq ?_;refine zR ?_;refine zT ?_;refine zR ?_;refine WpC.ret ?_;try simp only[aa,aj]
  refine zE ?_;simp -implicitDefEqProofs[H]
 |ok toks=>
  have htl:=gQ _ _ _ _ hl;have hn:toks.length<=500000000:=by omega
  have htx:∀t∈toks,t.text.length<=500000000:=λt ht=>by have:=htl.2 t ht;omega
  rw[hl] at hlx;simp only[qK] at hlx;obtain⟨Z,hZ⟩:∃Z,cB toks s.length (toks.length+1) ps0=Z:=⟨_,rfl⟩
  have hP:bR s=if Z.err=0 then(Z.rules,Z.exprs,0,0) else([],[],Z.place,Z.err):=by rw[bR,hl,<-hZ]
  have hZ0:=hZ.symm;rw[hP];refine ah.enter tabOk Tryz.func11 rfl (by show 1<=59;decide) ?_
  simp only[Tryz.f11];have H:=trivial;refine zR ?_;refine WpC.seq ?_;refine WpC.region ?_;refine zO 1 ?_;refine zG tT (hlx) ?_;refine zO 7 ?_;refine WpO.nil ?_;refine WpC.seq ?_;refine zR ?_;refine zF ?_;refine WpC.skip ?_;refine zR ?_;refine WpC.seq ?_;refine WpC.block ?_;refine WpC.gh (Gh.nilCell (id:=1) (off:=3) rG 3 (by rfl) (by rfl) (by simp)) ?_
  simp;refine WpC.gh (Gh.nilCell (id:=1) (off:=4) pK 6 (by rfl) (by rfl) (by simp)) ?_
  simp;refine WpC.loopM [2,5,8] [] (λx=>if x.err=0 then toks.length-x.pos+1 else 0) (⟨0,[],[],0,0⟩:Ps) (λx=>[]) (λx=>[.cells 41 [.d .nil,.d .nil],.cells rH (psC toks s.length x 2 3),.arr rG 3 (x.rules.map Ru.enc),.arr pK 6 (x.exprs.map Ex.enc)]) (λx=>wfP toks x/\x.rules.length<=x.pos/\∃f,(x.err=0->toks.length-x.pos+1<=f)/\Z=cB toks s.length f x) (by simp -implicitDefEqProofs[H]<;>rfl) (Gh.cut' [2,5,8] 4 (by simp -implicitDefEqProofs[H]) (by simp -implicitDefEqProofs[H]) rfl (by simp) (by simp) (by simp)) (⟨⟨Nat.zero_le _,Nat.le_refl _⟩,Nat.le_refl _,toks.length+1,λ_=>by simp only;omega,hZ0⟩) ?_
  rintro x hi;simp only[List.cons_append,List.nil_append];obtain⟨h1,h2,f,hf,hpr⟩:=hi;obtain⟨b,hb⟩:∃b,decide (x.pos<toks.length/\x.err=0)=b:=⟨_,rfl⟩
  have hb1:(x.pos:Int)<toks.length->decide (x.err=0)=b:=λhlt=>by rw[<-hb];congr 1;exact propext ⟨λhe=>⟨by omega,he⟩,λhe=>he.2⟩
  have hb2:¬(x.pos:Int)<toks.length->b=false:=λhlt=>by rw[<-hb];simp;omega
  replace H:=And.intro hb1 (And.intro hb2 H);refine WpC.seq ?_;refine WpC.seq ?_;refine WpC.val 38 (.d (.bool (b))) ?_ ?_
  ·refine WpC.region ?_;refine zO 8 ?_;refine zS 32 (λg32=>?_) (λg32=>?_)
   ·have g32':=zN g32;replace H:=And.intro g32 H;refine zO 6 ?_;refine WpO.nil ?_;refine⟨rfl,Gh.only 38 15 ?_ (by first|rfl|simp -implicitDefEqProofs[H]) (by rfl)⟩
    simp -implicitDefEqProofs[H,g32']<;>omega
   have g32':=zN g32;replace H:=And.intro g32 H;refine zO 6 ?_;refine WpO.nil ?_;refine⟨rfl,Gh.only 38 15 ?_ (by first|rfl|simp -implicitDefEqProofs[H]) (by rfl)⟩
   simp -implicitDefEqProofs[H,g32']<;>omega
  refine zC (λc38=>?_) (λc38=>?_)
  ·have c38':=zN c38;have hbb:x.pos<toks.length/\x.err=0:=by simpa[c38] using hb
   have he0:=hbb.2;have hg:=sL (en:=s.length) x h1 h2 hbb.1;have hru:=AV toks s.length hn htx x h1 (by unfold wfP at h1;omega)
   have hf0:=hf he0;cases f with
   |zero=>omega
   |succ f=>?_
   have hst:cB toks s.length (f+1) x=cB toks s.length f (da toks s.length x):=by rw[cB,if_pos hbb]
   rw[hst] at hpr;obtain⟨z,hz⟩:∃z,da toks s.length x=z:=⟨_,rfl⟩
   rw[hz] at hg hru hpr;have hless:(if z.err=0 then toks.length-z.pos+1 else 0)<(if x.err=0 then toks.length-x.pos+1 else 0):=by
    rw[if_pos he0];split
    ·rename_i he;have:=hg.2.2 he;omega
    ·omega
   replace H:=And.intro c38 H;refine WpC.skip ?_;refine WpC.block ?_;refine WpC.region ?_;refine zO 1 ?_;refine zP [1,2,3] CF (hru) ?_;refine WpO.nil ?_;exact⟨z,⟨hg.1,hg.2.1,f,λhe=>by have:=hg.2.2 he;omega,hpr⟩,hless,Gh.pick [2,5,8] [0,1,4,5] (by simp;rfl) (by simp) (by simp) (by simp) (by simp;rfl) (by simp) (by simp)⟩
  have c38':=zN c38;have hbb:¬(x.pos<toks.length/\x.err=0):=by simpa[c38] using hb
  have hZx:Z=x:=by
   cases f with
   |zero=>exact hpr
   |succ f=>rw[hpr,cB,if_neg hbb]
  subst hZx;replace H:=And.intro c38 H;refine WpC.exit ?_;refine WpC.seq ?_;refine zR ?_;refine zD (¬Z.err=0) (λd45=>?_) (λd45=>?_)
  ·replace H:=And.intro d45 H;refine WpC.seq (WpC.drawn tabOk (by kernel_rfl) 0 (by simp) ?_)
   iterate 4 refine yO 3 ?_
   refine DrO.nil ⟨by kernel_rfl,?_⟩
   refine WpC.ret ?_;try simp only[aa,aj]
   refine zE ?_;rw[if_neg d45];simp[jF]
  replace H:=And.intro d45 H;refine WpC.skip ?_;refine zR ?_;refine WpC.ret ?_;try simp only[aa,aj]
  refine zE ?_;rw[if_pos (by simpa using d45)]
  simp[jF]
end Go.Proofs.YtlhmejigmokbhaaGreatDoor.Pay
