/- The texts TrI, VaC, VaD, one behind the other. No statement of the seed is proved here. -/
import Derived.Test.YtlhmejigmokbhaaGreatDoorMgBD
import Derived.Test.YtlhmejigmokbhaaGreatDoorMgBG
import Derived.Test.YtlhmejigmokbhaaGreatDoorMgBI
namespace Go.Proofs.YtlhmejigmokbhaaGreatDoor.Pay
open Go Go.RowKit
set_option linter.unusedVariables false
set_option linter.unusedSimpArgs false
def inE (e:Ex):Prop:= -9223372036854775808<=e.val/\e.val<=9223372036854775807
def X2 (a b:Ps):Prop:=(∃l,b.exprs=a.exprs++l/\∀e∈l,inE e)/\(b.err=0->a.err=0)
theorem r_ (a:Ps):X2 a a:=⟨⟨[],by simp,by simp⟩,λh=>h⟩
theorem aH {a b c:Ps} (h:X2 a b) (g:X2 b c):X2 a c:=by
 obtain⟨⟨l,h1,h2⟩,h3⟩:=h;obtain⟨⟨m,g1,g2⟩,g3⟩:=g;refine⟨⟨l++m,by rw[g1,h1,List.append_assoc],λe he=>?_⟩,λh=>h3 (g3 h)⟩
 rcases List.mem_append.1 he with h|h
 ·exact h2 e h
 ·exact g2 e h
theorem lG {a b:Ps} (h:X2 a b):a.exprs.length<=b.exprs.length:=by
 obtain⟨⟨l,h1,_⟩,_⟩:=h;rw[h1,List.length_append];omega
theorem D1 {e:Ex} (he:inE e) (a:Ps):X2 a (cu e a):=⟨⟨[e],rfl,λx hx=>by rw[List.mem_singleton.1 hx];exact he⟩,λh=>h⟩
theorem cE (a:Ps):X2 a (ac a):=⟨⟨[],by simp[ac],by simp⟩,λh=>h⟩
section
variable {toks:List Tok} {en:Nat}
theorem kZ {e:Int} (he:e≠0) (a:Ps):X2 a (bD toks en e a):=⟨⟨[],by rw[(fX e a).2.1];simp,by simp⟩,λh=>absurd h (cR he a)⟩
theorem eP (s:List UInt8) (a:Ps):X2 a (aG s toks en a):=by
 unfold aG;split
 ·exact cE a
 ·exact kZ (by decide) a
theorem in0 (op nm:List UInt8) (a b c:Int):inE ⟨op,nm,0,a,b,c⟩:=⟨by show(-9223372036854775808:Int)<=0;decide,by show(0:Int)<=9223372036854775807;decide⟩
def inR (lo:Nat) (p:Ps×Int):Prop:=p.1.err=0->(lo:Int)<=p.2/\p.2<p.1.exprs.length
def GX (F:PF):Prop:=∀st,X2 st (F st).1/\inR st.exprs.length (F st)
theorem rN {e:Ex} (he:inE e) {a b:Ps} (h:X2 a b):X2 a (cu e b)/\inR a.exprs.length (cu e b,(b.exprs.length:Int)):=by
 have hl:=lG h;refine⟨aH h (D1 he b),λ_=>?_⟩
 simp only[cu,List.length_append,List.length_cons,List.length_nil];omega
theorem sS {F:PF} (hF:GX F):∀f (s0 st:Ps) (a:Int),X2 s0 st->inR s0.exprs.length (st,a)->X2 s0 (fJ toks en F f st a).1/\inR s0.exprs.length (fJ toks en F f st a)
 |0,s0,st,a,h1,h2=>⟨h1,h2⟩
 |f+1,s0,st,a,h1,h2=>by
  unfold fJ;split
  ·have h3:=aH h1 (aH (cE st) (hF (ac st)).1);have h4:=rN (in0 [42] [] a (F (ac st)).2 0) h3;exact sS hF f s0 _ _ h4.1 h4.2
  ·exact⟨h1,h2⟩
theorem oL {F:PF} (hF:GX F):GX (ck toks en F):=λst=>sS hF _ st _ _ (hF st).1 (hF st).2
theorem vM {F:PF} (hF:GX F):∀f (s0 st:Ps) (a:Int),X2 s0 st->inR s0.exprs.length (st,a)->X2 s0 (jZ toks en F f st a).1/\inR s0.exprs.length (jZ toks en F f st a)
 |0,s0,st,a,h1,h2=>⟨h1,h2⟩
 |f+1,s0,st,a,h1,h2=>by
  unfold jZ;split
  ·have h3:=aH h1 (aH (cE st) (hF (ac st)).1);have h4:=rN (in0 (aV toks en st).text [] a (F (ac st)).2 0) h3;exact vM hF f s0 _ _ h4.1 h4.2
  ·exact⟨h1,h2⟩
theorem rJ {F:PF} (hF:GX F):GX (jY toks en F):=λst=>vM (oL hF) _ st _ _ (oL hF st).1 (oL hF st).2
theorem A8 (s:List UInt8): -9223372036854775808<=(m7 s).1/\(m7 s).1<=9223372036854775807:=by
 unfold m7;split
 ·have:=sR (Lib.trimSuffix s [37]);simp only;omega
 ·exact⟨by show(-9223372036854775808:Int)<=0;decide,by show(0:Int)<=9223372036854775807;decide⟩
theorem wX {t:Tok} {e:Ex} (h:nR t=some e):inE e:=by
 unfold nR at h;split at h
 ·cases h;exact mR t.text
 ·split at h
  ·cases h;have:=sR t.text;exact⟨by show(-9223372036854775808:Int)<=(iM t.text).1;omega,this.2⟩
  ·split at h
   ·cases h;exact A8 t.text
   ·split at h
    ·split at h
     ·cases h;exact in0 _ _ _ _ _
     ·cases h
    ·cases h
theorem Bw:GX (gf toks en):=λst=>by
 unfold gf;split
 ·rename_i e he;have h:=rN (wX he) (cE st);exact⟨h.1,h.2⟩
 ·exact⟨kZ (by decide) st,λh=>absurd h (cR (by decide) st)⟩
theorem tn {E F:PF} (hE:GX E) (hF:GX F):GX (dt toks en E F):=λst=>by
 unfold dt;split
 ·rename_i h;exact⟨r_ st,λh0=>absurd h0 h⟩
 ·split
  ·exact rN (in0 _ _ _ _ _) (aH (cE st) (hF (ac st)).1)
  ·split
   ·unfold jp;exact rN (in0 _ _ _ _ _) (aH (aH (aH (aH (aH (cE st) (eP _ _)) (hE _).1) (eP _ _)) (hE _).1) (eP _ _))
   ·split
    ·have h1:=hE (ac st);have h2:=eP (toks:=toks) (en:=en) [41] (E (ac st)).1;refine⟨aH (aH (cE st) h1.1) h2,λh0=>?_⟩
     have h3:=h1.2 (h2.2 h0);have h4:=lG h2;simp only at h3 ⊢;have h5:(ac st).exprs.length=st.exprs.length:=rfl;omega
    ·exact Bw st
theorem BJ {E F:PF} (hE:GX E) (hF:GX F):GX (fd toks en E F):=λst=>by
 unfold fd;split
 ·rename_i h;exact⟨r_ st,λh0=>absurd h0 h⟩
 ·split
  ·unfold ifP;exact rN (in0 _ _ _ _ _) (aH (aH (aH (aH (aH (cE st) (hE _).1) (eP _ _)) (hE _).1) (eP _ _)) (hE _).1)
  ·unfold jG;simp only;split
   ·exact rN (in0 _ _ _ _ _) (aH (aH (rJ hF st).1 (cE _)) (rJ hF _).1)
   ·exact rJ hF st
theorem DS:∀R,GX (lev toks en R).1/\GX (lev toks en R).2
 |0=>⟨λst=>⟨kZ (by decide) st,λh=>absurd h (cR (by decide) st)⟩,λst=>⟨kZ (by decide) st,λh=>absurd h (cR (by decide) st)⟩⟩
 |R+1=>by
  have h:=DS R;exact⟨BJ h.1 (tn h.1 h.2),tn h.1 h.2⟩
def RX (R:List Ru) (X:List Ex):Prop:=R.Pairwise (λa b=>a.root<=b.root)/\(∀r∈R,0<=r.root/\r.root<X.length)/\∀e∈X,inE e
theorem Fj (st:Ps) (h:RX st.rules st.exprs) (h0:(da toks en st).err=0):RX (da toks en st).rules (da toks en st).exprs:=by
 unfold da at h0 ⊢;simp only at h0 ⊢;split at h0
 ·exact absurd h0 (cR (by decide) st)
 ·rename_i hA;rw[if_neg hA];split at h0
  ·rename_i hB;rw[if_pos hB];split at h0
   ·rename_i hC;rw[if_pos hC];have g1:=eP (toks:=toks) (en:=en) [61] (ac (ac st));have g2:=(DS (toks:=toks) (en:=en) 20).1 (aG [61] toks en (ac (ac st)));have g3:=eP (toks:=toks) (en:=en) [59] ((lev toks en 20).1 (aG [61] toks en (ac (ac st)))).1;have kr:(aG [59] toks en ((lev toks en 20).1 (aG [61] toks en (ac (ac st)))).1).rules=st.rules:=by
     rw[cV,(gR 20).1,cV];rfl
    obtain⟨p,hp⟩:∃p,(lev toks en 20).1 (aG [61] toks en (ac (ac st)))=p:=⟨_,rfl⟩
    rw[hp] at g2 g3 kr h0 ⊢;obtain⟨z,hz⟩:∃z,aG [59] toks en p.1=z:=⟨_,rfl⟩
    rw[hz] at g3 kr h0 ⊢;have gz:X2 st z:=aH (aH (aH (aH (cE st) (cE _)) g1) g2.1) g3;have hr:=g2.2 (g3.2 h0);have l1:=lG (aH (aH (cE st) (cE _)) g1);have l3:=lG g3;have lz:=lG gz;obtain⟨⟨l,e1,e2⟩,_⟩:=gz;simp only[kr];refine⟨List.pairwise_append.2 ⟨h.1,List.pairwise_singleton ..,λa ha b hb=>?_⟩,λr hr2=>?_,λe he=>?_⟩
    ·rw[List.mem_singleton.1 hb];have:=(h.2.1 a ha).2;simp only;omega
    ·rcases List.mem_append.1 hr2 with q|q
     ·have:=h.2.1 r q;omega
     ·rw[List.mem_singleton.1 q];simp only;omega
    ·rw[e1] at he;rcases List.mem_append.1 he with q|q
     ·exact h.2.2 e q
     ·exact e2 e q
   ·exact absurd h0 (cR (by decide) _)
  ·exact absurd h0 (cR (by decide) st)
theorem pV:∀f st,RX st.rules st.exprs->(cB toks en f st).err=0->RX (cB toks en f st).rules (cB toks en f st).exprs
 |0,st,h,_=>h
 |f+1,st,h,h0=>by
  rw[cB] at h0 ⊢;split
  ·rename_i hc;rw[if_pos hc] at h0;by_cases he:(da toks en st).err=0
   ·exact pV f _ (Fj st h he) h0
   ·exfalso;cases f with
    |zero=>exact he h0
    |succ f=>
     rw[cB,if_neg (λq=>he q.2)] at h0
     exact he h0
  ·exact h
end
theorem sV (s:List UInt8):RX (bR s).1 (bR s).2.1:=by
 have nil:RX [] []:=⟨List.Pairwise.nil,by simp,by simp⟩
 unfold bR;split
 ·exact nil
 ·simp only;split
  ·rename_i h;exact pV _ _ nil h
  ·exact nil
theorem l4 {toks:List Tok} {en:Nat}:∀f st,wfP toks st->st.rules.length<=st.pos->wfP toks (cB toks en f st)/\(cB toks en f st).rules.length<=(cB toks en f st).pos
 |0,st,h,g=>⟨h,g⟩
 |f+1,st,h,g=>by
  rw[cB];split
  ·rename_i hc;have:=sL (en:=en) st h g hc.1;exact l4 f _ this.1 this.2.1
  ·exact⟨h,g⟩
theorem nL (s:List UInt8):(bR s).1.length<=s.length+1/\(bR s).2.1.length<=s.length+1:=by
 unfold bR;split
 ·simp
 ·rename_i toks h;have hl:=(gQ _ _ _ _ h).1;simp only;split
  ·have:=l4 (toks:=toks) (en:=s.length) (toks.length+1) ps0 ⟨Nat.zero_le _,Nat.le_refl _⟩ (Nat.le_refl _);unfold wfP at this;simp only;omega
  ·simp
def rA (op:List UInt8) (a b:Ce):Ce:=
 if op==[43] then⟨a.kind,if h_ a.n b.n=true then a.n+b.n else 0,!h_ a.n b.n⟩
 else if op==[45] then⟨a.kind,if pM a.n b.n=true then a.n-b.n else 0,!pM a.n b.n⟩
 else if op==[42] then kJ a b
 else if op==[109,105,110] then⟨a.kind,min a.n b.n,false⟩
 else if op==[109,97,120] then⟨a.kind,max a.n b.n,false⟩
 else if op==[60] then dU (decide (a.n<b.n))
 else if op==[60,61] then dU (decide (a.n<=b.n))
 else if op==[61] then dU (decide (a.n=b.n))
 else if op==[60,62] then dU (!decide (a.n=b.n))
 else if op==[62] then dU (decide (b.n<a.n))
 else dU (decide (b.n<=a.n))
set_option maxHeartbeats 4000000 in
theorem yW (op:List UInt8) (a b:Ce) (ha:aC a.n) (hb:aC b.n):ah Tryz.prog 127 [.d (.str op),.d a.enc,.d b.enc] (.d (rA op a b).enc):=by
 have h1:=py a.n b.n ha hb;have h2:=AB a.n b.n ha hb;have h3:=ww a b ha hb;obtain⟨ad,had⟩:∃v,h_ a.n b.n=v:=⟨_,rfl⟩
 obtain⟨su,hsu⟩:∃v,pM a.n b.n=v:=⟨_,rfl⟩
 obtain⟨p,hp⟩:∃v,kJ a b=v:=⟨_,rfl⟩
 rw[had] at h1;rw[hsu] at h2;rw[hp] at h3;have ht:rA op a b=if op==[43] then⟨a.kind,if ad=true then a.n+b.n else 0,!ad⟩
  else if op==[45] then⟨a.kind,if su=true then a.n-b.n else 0,!su⟩
  else if op==[42] then p
  else if op==[109,105,110] then⟨a.kind,min a.n b.n,false⟩
  else if op==[109,97,120] then⟨a.kind,max a.n b.n,false⟩
  else if op==[60] then dU (decide (a.n<b.n))
  else if op==[60,61] then dU (decide (a.n<=b.n))
  else if op==[61] then dU (decide (a.n=b.n))
  else if op==[60,62] then dU (!decide (a.n=b.n))
  else if op==[62] then dU (decide (b.n<a.n))
  else dU (decide (b.n<=a.n)):=by rw[rA,had,hsu,hp]
 obtain⟨t,htt⟩:∃t,rA op a b=t:=⟨_,rfl⟩
 rw[htt] at ht ⊢;refine ah.enter tabOk Tryz.func127 rfl (by show 3<=115;decide) ?_
 simp only[Tryz.f127];have H:=trivial;refine zR ?_;refine WpC.seq ?_;refine zR ?_;refine WpC.block ?_;refine zR ?_;refine zC (λc12=>?_) (λc12=>?_)
 ·have c12':=zN c12;replace H:=And.intro c12 H;refine WpC.seq ?_;refine WpC.region ?_;refine zO 4 ?_;refine zG mL (h1) ?_;refine zO 5 ?_;refine WpO.nil ?_;refine zR ?_;refine WpC.ret ?_;try simp only[aa,aj]
  refine zE ?_;subst ht;cases ad<;>simp[c12']
 have c12':=zN c12;replace H:=And.intro c12 H;refine zR ?_;refine zC (λc28=>?_) (λc28=>?_)
 ·have c28':=zN c28;replace H:=And.intro c28 H;refine WpC.seq ?_;refine WpC.region ?_;refine zO 4 ?_;refine zG yc (h2) ?_;refine zO 5 ?_;refine WpO.nil ?_;refine zR ?_;refine WpC.ret ?_;try simp only[aa,aj]
  refine zE ?_;subst ht;cases su<;>simp[c12',c28']
 have c28':=zN c28;replace H:=And.intro c28 H;refine zR ?_;refine zC (λc44=>?_) (λc44=>?_)
 ·have c44':=zN c44;replace H:=And.intro c44 H;refine WpC.seq ?_;refine WpC.region ?_;refine zO 2 ?_;refine zG yb (h3) ?_;refine zO 1 ?_;refine WpO.nil ?_;refine WpC.ret ?_;try simp only[aa,aj]
  refine zE ?_;subst ht;simp[c12',c28',c44']
 have c44':=zN c44;replace H:=And.intro c44 H;refine zR ?_;refine zC (λc49=>?_) (λc49=>?_)
 ·have c49':=zN c49;replace H:=And.intro c49 H;refine zR ?_;refine WpC.ret ?_;try simp only[aa,aj]
  refine zE ?_;subst ht;simp[c12',c28',c44',c49']
 have c49':=zN c49;replace H:=And.intro c49 H;refine zR ?_;refine zC (λc59=>?_) (λc59=>?_)
 ·have c59':=zN c59;replace H:=And.intro c59 H;refine zR ?_;refine WpC.ret ?_;try simp only[aa,aj]
  refine zE ?_;subst ht;simp[c12',c28',c44',c49',c59']
 have c59':=zN c59;replace H:=And.intro c59 H;refine zR ?_;refine zC (λc69=>?_) (λc69=>?_)
 ·have c69':=zN c69;replace H:=And.intro c69 H;refine WpC.seq ?_;refine WpC.region ?_;refine zO 5 ?_;refine zG fP (iu (decide (a.n<b.n))) ?_;refine zO 1 ?_;refine WpO.nil ?_;refine WpC.ret ?_;try simp only[aa,aj]
  refine zE ?_;subst ht;simp[c12',c28',c44',c49',c59',c69']
 have c69':=zN c69;replace H:=And.intro c69 H;refine zR ?_;refine zC (λc77=>?_) (λc77=>?_)
 ·have c77':=zN c77;replace H:=And.intro c77 H;refine WpC.seq ?_;refine WpC.region ?_;refine zO 5 ?_;refine zG fP (iu (decide (a.n<=b.n))) ?_;refine zO 1 ?_;refine WpO.nil ?_;refine WpC.ret ?_;try simp only[aa,aj]
  refine zE ?_;subst ht;simp[c12',c28',c44',c49',c59',c69',c77']
 have c77':=zN c77;replace H:=And.intro c77 H;refine zR ?_;refine zC (λc85=>?_) (λc85=>?_)
 ·have c85':=zN c85;replace H:=And.intro c85 H;refine WpC.seq ?_;refine WpC.region ?_;refine zO 5 ?_;refine zG fP (iu (decide (a.n=b.n))) ?_;refine zO 1 ?_;refine WpO.nil ?_;refine WpC.ret ?_;try simp only[aa,aj]
  refine zE ?_;subst ht;simp[c12',c28',c44',c49',c59',c69',c77',c85']
 have c85':=zN c85;replace H:=And.intro c85 H;refine zR ?_;refine zC (λc93=>?_) (λc93=>?_)
 ·have c93':=zN c93;replace H:=And.intro c93 H;refine WpC.seq ?_;refine WpC.region ?_;refine zO 5 ?_;refine zG fP (iu (!decide (a.n=b.n))) ?_;refine zO 1 ?_;refine WpO.nil ?_;refine WpC.ret ?_;try simp only[aa,aj]
  refine zE ?_;subst ht;simp[c12',c28',c44',c49',c59',c69',c77',c85',c93']
 have c93':=zN c93;replace H:=And.intro c93 H;refine zR ?_;refine zC (λc101=>?_) (λc101=>?_)
 ·have c101':=zN c101;replace H:=And.intro c101 H;refine WpC.seq ?_;refine WpC.region ?_;refine zO 5 ?_;refine zG fP (iu (decide (b.n<a.n))) ?_;refine zO 1 ?_;refine WpO.nil ?_;refine WpC.ret ?_;try simp only[aa,aj]
  refine zE ?_;subst ht;simp[c12',c28',c44',c49',c59',c69',c77',c85',c93',c101']
 have c101':=zN c101;replace H:=And.intro c101 H;refine WpC.skip ?_;refine WpC.seq ?_;refine WpC.region ?_;refine zO 5 ?_;refine zG fP (iu (decide (b.n<=a.n))) ?_;refine zO 1 ?_;refine WpO.nil ?_;refine WpC.ret ?_;try simp only[aa,aj]
 refine zE ?_;subst ht;simp[c12',c28',c44',c49',c59',c69',c77',c85',c93',c101']
def ea (c:List Ce) (v:Int):Ce:=c.getD v.toNat default
def ifV (a y z:Ce):Ce:=⟨(if a.n=1 then y else z).kind,(if a.n=1 then y else z).n,(if a.n=1 then y else z).over||a.over⟩
def qb (x:Ex) (c:List Ce) (l:List Wo):Ce:=
 if x.op==[119,104,111,108,101] then⟨3,x.val,!aD x.val⟩
 else if x.op==[97,109,111,117,110,116] then⟨1,x.val,!aD x.val⟩
 else if x.op==[114,97,116,101] then⟨2,x.val,!aD x.val⟩
 else if x.op==[110,97,109,101] then fw l x.name
 else if x.op==[110,101,103] then⟨(ea c x.a).kind,if aD (ea c x.a).n=true then -(ea c x.a).n else 0,(ea c x.a).over||!aD (ea c x.a).n⟩
 else if x.op==[105,102] then ifV (ea c x.a) (ea c x.b) (ea c x.c)
 else if ((ea c x.a).over||(ea c x.b).over)=true then⟨0,0,true⟩
 else rA x.op (ea c x.a) (ea c x.b)
theorem fO {c:List Ce} {v:Int} (h0:0<=v) (h1:v<c.length):∃(i:Nat) (u:Ce) (h:i<c.length),v=i/\c[i]=u/\ea c v=u/\u∈c:=by
 obtain⟨i,rfl⟩:∃i:Nat,v=i:=⟨v.toNat,by omega⟩
 have hi:i<c.length:=by omega
 exact⟨i,c[i],hi,rfl,rfl,by rw[ea,Int.toNat_natCast,List.getD_eq_getElem?_getD,List.getElem?_eq_getElem hi];rfl,List.getElem_mem hi⟩
set_option maxHeartbeats 8000000 in
theorem Bb (x:Ex) (c:List Ce) (l:List Wo) (hl:l.length<=1000000000) (hc:∀u∈c,aC u.n) (hp:∀v∈aE x,0<=v/\v<c.length):ah Tryz.prog 95 [.d x.enc,.d (.list 3 (c.map Ce.enc)),.d (xP l)] (.d (qb x c l).enc):=by
 have hrm:=aX x.val;have hnm:=wJ l x.name hl;have hneg:x.op=[110,101,103]->0<=x.a/\x.a<c.length:=λh=>hp _ (by simp[aE,h])
 have hif:x.op=[105,102]->(0<=x.a/\x.a<c.length)/\(0<=x.b/\x.b<c.length)/\0<=x.c/\x.c<c.length:=λh=>⟨hp _ (by simp[aE,h]),hp _ (by simp[aE,h]),hp _ (by simp[aE,h])⟩
 have htwo:¬x.op=[119,104,111,108,101]->¬x.op=[97,109,111,117,110,116]->¬x.op=[114,97,116,101]->¬x.op=[110,97,109,101]->¬x.op=[110,101,103]->¬x.op=[105,102]->(0<=x.a/\x.a<c.length)/\(0<=x.b/\x.b<c.length):=
  λh1 h2 h3 h4 h5 h6=>⟨hp _ (by simp[aE,h1,h2,h3,h4,h5,h6]),hp _ (by simp[aE,h1,h2,h3,h4,h5,h6])⟩
 obtain⟨t,htt⟩:∃t,qb x c l=t:=⟨_,rfl⟩
 have ht:=htt;unfold qb at ht;obtain⟨rm,hrv⟩:∃v,aD x.val=v:=⟨_,rfl⟩
 rw[hrv] at hrm ht;rw[htt];refine ah.enter tabOk Tryz.func95 rfl (by show 3<=122;decide) ?_
 simp only[Tryz.f95];have H:=trivial;refine zR ?_;refine WpC.seq ?_;refine zR ?_;refine WpC.block ?_;refine zR ?_;refine zC (λc16=>?_) (λc16=>?_)
 ·have c16':=zN c16;replace H:=And.intro c16 H;refine WpC.seq ?_;refine WpC.drawn tabOk (by kernel_rfl) 0 (by simp) ?_
  refine yO 3 ?_;refine yO 1 ?_;refine yG a_ (hrm) ?_;refine yO 3 ?_;refine DrO.nil ⟨by kernel_rfl,?_⟩
  refine WpC.ret ?_;try simp only[aa,aj]
  refine zE ?_;subst ht;simp[c16']
 have c16':=zN c16;replace H:=And.intro c16 H;refine zR ?_;refine zC (λc25=>?_) (λc25=>?_)
 ·have c25':=zN c25;replace H:=And.intro c25 H;refine WpC.seq ?_;refine WpC.drawn tabOk (by kernel_rfl) 0 (by simp) ?_
  refine yO 3 ?_;refine yO 1 ?_;refine yG a_ (hrm) ?_;refine yO 3 ?_;refine DrO.nil ⟨by kernel_rfl,?_⟩
  refine WpC.ret ?_;try simp only[aa,aj]
  refine zE ?_;subst ht;simp[c16',c25']
 have c25':=zN c25;replace H:=And.intro c25 H;refine zR ?_;refine zC (λc34=>?_) (λc34=>?_)
 ·have c34':=zN c34;replace H:=And.intro c34 H;refine WpC.seq ?_;refine WpC.drawn tabOk (by kernel_rfl) 0 (by simp) ?_
  refine yO 3 ?_;refine yO 1 ?_;refine yG a_ (hrm) ?_;refine yO 3 ?_;refine DrO.nil ⟨by kernel_rfl,?_⟩
  refine WpC.ret ?_;try simp only[aa,aj]
  refine zE ?_;subst ht;simp[c16',c25',c34']
 have c34':=zN c34;replace H:=And.intro c34 H;refine zR ?_;refine zC (λc43=>?_) (λc43=>?_)
 ·have c43':=zN c43;replace H:=And.intro c43 H;refine WpC.seq ?_;refine WpC.region ?_;refine zO 3 ?_;refine zG yr (hnm) ?_;refine zO 1 ?_;refine WpO.nil ?_;refine WpC.ret ?_;try simp only[aa,aj]
  refine zE ?_;subst ht;simp[c16',c25',c34',c43']
 have c43':=zN c43;replace H:=And.intro c43 H;refine zR ?_;refine zC (λc49=>?_) (λc49=>?_)
 ·have c49':=zN c49;obtain⟨a,u,hal,hae,hau,hai,ham⟩:=fO (hneg (by simpa using c49)).1 (hneg (by simpa using c49)).2
  have hng:=sY u.n (hc u ham);rw[hai] at ht;obtain⟨rn,hrn⟩:∃v,aD u.n=v:=⟨_,rfl⟩
  rw[hrn] at hng ht;replace H:=And.intro c49 (And.intro hal (And.intro hae (And.intro hau H)));refine zR ?_;refine WpC.seq ?_;refine WpC.region ?_;refine zO 2 ?_;refine zG mH (hng) ?_;refine zO 5 ?_;refine WpO.nil ?_;refine WpC.seq ?_;refine WpC.region ?_;refine zO 6 ?_;refine zS 67 (λg67=>?_) (λg67=>?_)
  ·have g67':=zN g67;replace H:=And.intro g67 H;refine zO 5 ?_;refine WpO.nil ?_;refine WpC.ret ?_;try simp only[aa,aj]
   refine zE ?_;subst ht;cases rn<;>simp[c16',c25',c34',c43',c49',g67']
  have g67':=zN g67;replace H:=And.intro g67 H;refine zO 5 ?_;refine WpO.nil ?_;refine WpC.ret ?_;try simp only[aa,aj]
  refine zE ?_;subst ht;cases rn<;>simp[c16',c25',c34',c43',c49',g67']
 have c49':=zN c49;replace H:=And.intro c49 H;refine zR ?_;refine zC (λc72=>?_) (λc72=>?_)
 ·have c72':=zN c72;have hif:=hif (by simpa using c72)
  obtain⟨a,u,hal,hae,hau,hai,ham⟩:=fO hif.1.1 hif.1.2;obtain⟨a2,u2,hal2,hae2,hau2,hai2,ham2⟩:=fO hif.2.1.1 hif.2.1.2;obtain⟨a3,u3,hal3,hae3,hau3,hai3,ham3⟩:=fO hif.2.2.1 hif.2.2.2;rw[hai,hai2,hai3] at ht;replace H:=And.intro c72 (And.intro hal (And.intro hae (And.intro hau (And.intro hal2 (And.intro hae2 (And.intro hau2 (And.intro hal3 (And.intro hae3 (And.intro hau3 H)))))))));refine WpC.seq (WpC.drawn tabOk (by kernel_rfl) 2 (by simp) ?_)
  iterate 4 refine yO 3 ?_
  refine yO 2 ?_;refine DrO.nil ⟨by kernel_rfl,?_⟩
  refine WpC.seq ?_;refine zR ?_;refine zD (u.n=1) (λd86=>?_) (λd86=>?_)
  ·replace H:=And.intro d86 H;refine zr ?_;refine WpC.seq ?_;refine WpC.region ?_;refine zO 3 ?_;refine zS 94 (λg94=>?_) (λg94=>?_)
   ·have g94':=zN g94;replace H:=And.intro g94 H;refine zO 5 ?_;refine WpO.nil ?_;refine zR ?_;refine WpC.ret ?_;try simp only[aa,aj]
    refine zE ?_;subst ht;simp[c16',c25',c34',c43',c49',c72',ifV,d86,g94']
   have g94':=zN g94;replace H:=And.intro g94 H;refine zO 5 ?_;refine WpO.nil ?_;refine zR ?_;refine WpC.ret ?_;try simp only[aa,aj]
   refine zE ?_;subst ht;simp[c16',c25',c34',c43',c49',c72',ifV,d86,g94']
  replace H:=And.intro d86 H;refine WpC.skip ?_;refine WpC.seq ?_;refine WpC.region ?_;refine zO 3 ?_;refine zS 94 (λg94=>?_) (λg94=>?_)
  ·have g94':=zN g94;replace H:=And.intro g94 H;refine zO 5 ?_;refine WpO.nil ?_;refine zR ?_;refine WpC.ret ?_;try simp only[aa,aj]
   refine zE ?_;subst ht;simp[c16',c25',c34',c43',c49',c72',ifV,d86,g94']
  have g94':=zN g94;replace H:=And.intro g94 H;refine zO 5 ?_;refine WpO.nil ?_;refine zR ?_;refine WpC.ret ?_;try simp only[aa,aj]
  refine zE ?_;subst ht;simp[c16',c25',c34',c43',c49',c72',ifV,d86,g94']
 have c72':=zN c72;have htwo:=htwo (by simpa using c16) (by simpa using c25) (by simpa using c34) (by simpa using c43) (by simpa using c49) (by simpa using c72)
 obtain⟨a,u,hal,hae,hau,hai,ham⟩:=fO htwo.1.1 htwo.1.2;obtain⟨a2,u2,hal2,hae2,hau2,hai2,ham2⟩:=fO htwo.2.1 htwo.2.2;have htc:=yW x.op u u2 (hc u ham) (hc u2 ham2);rw[hai,hai2] at ht;replace H:=And.intro c72 (And.intro hal (And.intro hae (And.intro hau (And.intro hal2 (And.intro hae2 (And.intro hau2 H))))));refine WpC.skip ?_;refine WpC.seq (WpC.drawn tabOk (by kernel_rfl) 2 (by simp) ?_)
 iterate 4 refine yO 3 ?_
 refine yO 2 ?_;refine DrO.nil ⟨by kernel_rfl,?_⟩
 refine WpC.seq ?_;refine WpC.seq ?_;refine WpC.region ?_;refine zO 3 ?_;refine zS 112 (λg112=>?_) (λg112=>?_)
 ·have g112':=zN g112;replace H:=And.intro g112 H;refine zO 3 ?_;refine WpO.nil ?_;refine zT ?_;refine zR ?_;refine WpC.ret ?_;try simp only[aa,aj]
  refine zE ?_;subst ht;simp[c16',c25',c34',c43',c49',c72',g112']
 have g112':=zN g112;replace H:=And.intro g112 H;refine zO 3 ?_;refine WpO.nil ?_;refine zC (λc115=>?_) (λc115=>?_)
 ·have c115':=zN c115;replace H:=And.intro c115 H;refine zR ?_;refine WpC.ret ?_;try simp only[aa,aj]
  refine zE ?_;subst ht;simp[c16',c25',c34',c43',c49',c72',g112',c115']
 have c115':=zN c115;replace H:=And.intro c115 H;refine WpC.skip ?_;refine WpC.seq ?_;refine WpC.region ?_;refine zO 4 ?_;refine zG yq (htc) ?_;refine zO 1 ?_;refine WpO.nil ?_;refine WpC.ret ?_;try simp only[aa,aj]
 refine zE ?_;subst ht;simp[c16',c25',c34',c43',c49',c72',g112',c115']
theorem D2 (a b:Int) (c:Nat) (mode:Int):aC (wmR a b c mode):=by
 unfold wmR aC;split
 ·rename_i h;simp only[oi,Bool.and_eq_true,decide_eq_true_eq] at h;split<;>omega
 ·omega
theorem yX {op:List UInt8} {a b:Ce} (ha:aC a.n) (hb:aC b.n):aC (rA op a b).n:=by
 have hf:∀c,aC (dU c).n:=λc=>by cases c<;>simp[dU,aC]
 unfold aC at ha hb;unfold rA;split
 ·show aC (if h_ a.n b.n=true then a.n+b.n else 0)
  unfold aC;split
  ·rename_i h;simp only[h_,decide_eq_true_eq] at h;omega
  ·omega
 ·split
  ·show aC (if pM a.n b.n=true then a.n-b.n else 0)
   unfold aC;split
   ·rename_i h;simp only[pM,h_,Bool.and_eq_true,decide_eq_true_eq] at h;omega
   ·omega
  ·split
   ·exact D2 _ _ _ _
   ·split
    ·show aC (min a.n b.n);unfold aC;omega
    ·split
     ·show aC (max a.n b.n);unfold aC;omega
     ·repeat' split
      all_goals exact hf _
theorem uG {l:List Wo} (hl:∀w∈l,aC w.val) (n:List UInt8):aC (fw l n).n:=by
 induction l with
 |nil=>simp[fw,aC]
 |cons w l ih=>
  rw[fw];split
  ·exact hl w (List.mem_cons_self ..)
  ·exact ih λv hv=>hl v (List.mem_cons_of_mem _ hv)
theorem Bc {x:Ex} {c:List Ce} {l:List Wo} (hx:inE x) (hc:∀u∈c,aC u.n) (hl:∀w∈l,aC w.val):aC (qb x c l).n:=by
 have hat:∀v,aC (ea c v).n:=λv=>by
  rw[ea,List.getD_eq_getElem?_getD];cases h:c[v.toNat]? with
  |none=>show aC 0;unfold aC;omega
  |some u=>exact hc u (List.mem_of_getElem? h)
 unfold qb;split
 ·exact hx
 ·split
  ·exact hx
  ·split
   ·exact hx
   ·split
    ·exact uG hl _
    ·split
     ·have:=hat x.a;show aC (if aD (ea c x.a).n=true then -(ea c x.a).n else 0)
      unfold aC at this ⊢;split
      ·rename_i h;have: -9223372036854775807<=(ea c x.a).n:=of_decide_eq_true h;omega
      ·omega
     ·split
      ·unfold ifV;simp only;split
       ·exact hat _
       ·exact hat _
      ·split
       ·show aC 0;unfold aC;omega
       ·exact yX (hat _) (hat _)
@[reducible] def Jg:TypeId:=173
@[reducible] def ov:TypeId:=143
def ca (l:List Wo):List Bd:=l.map λw=>⟨w.name,w.kind⟩
def bdW (l:List Wo) (k:Nat):List D:=(ca (l.take k)).map Bd.enc
def nq (l:List Wo) (k:Nat):Bool:=(l.take k).all cg
def rg (X:List Ex) (l:List Wo) (i:Nat) (c:List Ce):List Ce:=if (aE (X.getD i default)).all (ek i)=true then c.set i (qb (X.getD i default) c l) else c
def fk (X:List Ex) (l:List Wo) (N:Nat):Nat->List Ce
 |0=>List.replicate N ⟨0,0,false⟩
 |n+1=>rg X l n (fk X l N n)
def dc (X:List Ex) (root:Int) (l:List Wo):Int×Int:=
 if (cJ X root (ca l)).2.2=0 then
  (if l.all cg=true then
   (if (ea (fk X l (root.toNat+1) (root.toNat+1)) root).over=true then(0,3) else((ea (fk X l (root.toNat+1) (root.toNat+1)) root).n,0))
   else(0,3))
 else(0,(cJ X root (ca l)).2.2)
theorem kA (X:List Ex) (l:List Wo) (N:Nat):∀n,(fk X l N n).length=N
 |0=>by simp[fk]
 |n+1=>by
  rw[fk,rg];split
  ·rw[List.length_set];exact kA X l N n
  ·exact kA X l N n
theorem mM {X:List Ex} {l:List Wo} (hX:∀x∈X,inE x) (hl:∀w∈l,aC w.val) (N:Nat):∀n,∀u∈fk X l N n,aC u.n
 |0=>λu hu=>by
  rw[fk,List.mem_replicate] at hu;rw[hu.2];show aC 0;unfold aC;omega
 |n+1=>λu hu=>by
  have ih:=mM hX hl N n;rw[fk,rg] at hu;split at hu
  ·rcases List.mem_or_eq_of_mem_set hu with h|h
   ·exact ih u h
   ·rw[h];refine Bc ?_ ih hl;rw[List.getD_eq_getElem?_getD];cases hx:X[n]? with
    |none=>exact in0 _ _ _ _ _
    |some x=>exact hX x (List.mem_of_getElem? hx)
  ·exact ih u hu
theorem uN {X:List Ex} {root:Int} {l:List Bd} (h:(cJ X root l).2.2=0):∃m:Nat,root=m/\m<X.length:=by
 unfold cJ at h;cases hn:iD X root with
 |none=>rw[hn] at h;simp at h
 |some nd=>obtain⟨m,h1,h2,_⟩:=kM hn;exact⟨m,h1,h2⟩
set_option maxHeartbeats 8000000 in
theorem xz (R:List Ru) (X:List Ex) (root:Int) (l:List Wo) (hX:X.length<=10000) (hv:∀x∈X,inE x) (hl:l.length<=1000000) (hlv:∀w∈l,aC w.val):
 ah Tryz.prog 68 [.d (.agg [aL R,aM X]),.d (dI root),.d (xP l)] (.tup [.d (dI (dc X root l).1),.d (dI (dc X root l).2)]):=by
 have hkd:=te R X root (ca l) (by omega) (by rw[ca,List.length_map];omega)
 obtain⟨S,hS⟩:∃S,dc X root l=S:=⟨_,rfl⟩
 have hS0:=hS;unfold dc at hS0;have hkr:=uN (X:=X) (root:=root) (l:=ca l);obtain⟨⟨kd,ka,ke⟩,hkk⟩:∃p,cJ X root (ca l)=p:=⟨_,rfl⟩
 rw[hkk] at hkd hS0 hkr;simp only at hkd hS0 hkr;have hall:nq l l.length=l.all cg:=by rw[nq,List.take_length]
 rw[<-hall] at hS0;obtain⟨C,hC⟩:∃C,C=fk X l:=⟨_,rfl⟩
 rw[hS];refine ah.enter tabOk Tryz.func68 rfl (by show 3<=87;decide) ?_
 simp only[Tryz.f68];have H:=trivial;iterate 3 refine zR ?_
 refine WpC.seq ?_;refine zR ?_;refine WpC.block ?_;refine WpC.gh (Gh.nilArr rI 2 (t:=8) (by simp) (by simp)) ?_
 refine WpC.loopK [1,2,3,18,19] [8,9,20] (l.length) (():Unit) (λk _=>[(8,.sl 1 k),(9,.d (.bool (nq l k))),(20,.d (.int .i64 k))]) (λk _=>[.cells 41 [.d (aL R),.d (aM X)],.arr rI 2 (bdW l k)]) (λk _=>True) (by simp -implicitDefEqProofs[H]<;>rfl) (Gh.cut' [8,9,20,1,2,3,18,19] 2 (by simp[nq]) (by simp[bdW,ca]) rfl (by simp) (by simp) (by simp)) (by simp) ?_
 rintro k ⟨⟩ hk hi;simp only[List.cons_append,List.nil_append];refine zR ?_;refine WpC.seq (zL (k<l.length) (λhlt=>?_) (λhge=>?_))
 ·refine WpC.skip ?_;have hkl:k<l.length:=hlt;obtain⟨w,hw0⟩:∃w,l[k]=w:=⟨_,rfl⟩
  have hw:IntKind.i64.wrap ((k:Int)+1)=k+1:=am (by omega) (by omega)
  have htk:l.take (k+1)=l.take k++[w]:=by rw[List.take_add_one,List.getElem?_eq_getElem hkl,hw0];rfl
  have hb2:bdW l (k+1)=bdW l k++[.agg [.str w.name,dI w.kind]]:=by rw[bdW,bdW,htk,ca,ca,List.map_append,List.map_append];rfl
  have ha2:nq l (k+1)=(nq l k&&cg w):=by rw[nq,nq,htk,List.all_append];simp
  have hbl:(bdW l k).length=k:=by simp only[bdW,ca,List.length_map,List.length_take];omega
  have hk8:k<=8589934591:=by omega
  have hkb:k<=(bdW l k).length:=by omega
  have htb:List.take k (bdW l k)=bdW l k:=List.take_of_length_le (by omega)
  have hrw:=nG w;obtain⟨b,hb⟩:∃b,nq l k=b:=⟨_,rfl⟩
  rw[hb] at ha2 ⊢;obtain⟨rw1,hrw1⟩:∃b,cg w=b:=⟨_,rfl⟩
  rw[hrw1] at hrw ha2;replace H:=And.intro hlt (And.intro hkl (And.intro hw0 (And.intro hw (And.intro hk8 (And.intro hkb (And.intro htb (And.intro hbl H)))))));refine WpC.seq ?_;refine WpC.block ?_;iterate 2 refine zR ?_
  refine WpC.val 9 (.d (.bool ((b&&rw1)))) ?_ ?_
  ·refine WpC.region ?_;refine zO 2 ?_;refine zS 33 (λg33=>?_) (λg33=>?_)
   ·have g33':=zN g33;replace H:=And.intro g33 H;refine zO 1 ?_;refine zG tM (hrw) ?_;refine zO 2 ?_;refine WpO.nil ?_;refine⟨rfl,Gh.only 9 7 ?_ (by first|rfl|simp -implicitDefEqProofs[H]) (by rfl)⟩
    simp -implicitDefEqProofs[H,g33']
   have g33':=zN g33;replace H:=And.intro g33 H;refine zO 4 ?_;refine WpO.nil ?_;refine⟨rfl,Gh.only 9 7 ?_ (by first|rfl|simp -implicitDefEqProofs[H]) (by rfl)⟩
   simp -implicitDefEqProofs[H,g33']
  refine zr ?_;exact⟨hlt,(),trivial,Gh.pick [8,9,20,1,2,3,18,19] [0,4] (by simp -implicitDefEqProofs[H,hb2,ha2];rfl) (by simp -implicitDefEqProofs[H,hb2,ha2]) (by simp) (by simp) (by simp;rfl) (by simp -implicitDefEqProofs[H,hb2,ha2]) (by simp)⟩
 refine WpC.exit ?_;have hkn:k=l.length:=by omega
 subst hkn;have hkb:l.length<=(bdW l l.length).length:=by simp[bdW,ca]
 have htb:List.take l.length (bdW l l.length)=(ca l).map Bd.enc:=by rw[bdW,List.take_length];exact List.take_of_length_le (by simp[ca])
 obtain⟨sd,hsd⟩:∃b,nq l l.length=b:=⟨_,rfl⟩
 rw[hsd] at hS0 ⊢;replace H:=And.intro hkb (And.intro htb H);refine WpC.seq ?_;refine WpC.seq ?_;refine WpC.region ?_;refine zO 3 ?_;refine zB tG (hkd) ?_;refine zO 7 ?_;refine WpO.nil ?_;refine zR ?_;refine zD (¬ke=0) (λd47=>?_) (λd47=>?_)
 ·replace H:=And.intro d47 H;refine zR ?_;refine WpC.ret ?_;try simp only[aa,aj]
  refine zE ?_;rw[if_neg d47] at hS0;subst hS0;simp
 have hke:ke=0:=by omega
 rw[if_pos hke] at hS0;obtain⟨m,rfl,hm⟩:=hkr hke;rw[Int.toNat_natCast] at hS0;obtain⟨N,hN⟩:∃N,m+1=N:=⟨_,rfl⟩
 rw[hN,<-hC] at hS0;have hwN:IntKind.i64.wrap ((m:Int)+1)=(N:Int):=by rw[am (by omega) (by omega)];omega
 have hN8:(N:Int)<=8589934592:=by omega
 have hmN:m<N:=by omega
 have hcl:∀n,(C N n).length=N:=λn=>by rw[hC];exact kA X l N n
 have hci:∀n,∀u∈C N n,aC u.n:=λn=>by rw[hC];exact mM hv hlv N n
 have hc0:C N 0=List.replicate N ⟨0,0,false⟩:=by rw[hC,fk]
 have hcs:∀n,C N (n+1)=rg X l n (C N n):=λn=>by rw[hC,fk]
 replace H:=And.intro d47 (And.intro hwN (And.intro hN8 (And.intro hmN H)));refine WpC.skip ?_;refine WpC.seq ?_;refine zR ?_;refine zC (λc50=>?_) (λc50=>?_)
 ·have c50':=zN c50;replace H:=And.intro c50 H;refine zR ?_;refine WpC.ret ?_;try simp only[aa,aj]
  refine zE ?_;rw[if_neg (by simpa using c50)] at hS0
  subst hS0;simp
 have c50':=zN c50;rw[if_pos (by simpa using c50)] at hS0
 replace H:=And.intro c50 H;refine WpC.skip ?_;refine zR ?_;refine WpC.seq ?_;refine zR ?_;refine WpC.block ?_;refine WpC.loopK [1,2,3,15,55] [56] (N) (():Unit) (λk _=>[(56,.d (.int .i64 k))]) (λk _=>[.cells 41 [.d (aL R),.d (aM X)],.arr rI 2 (bdW l l.length),.arr Jg 3 ((C N k).map Ce.enc)]) (λk _=>True) (by simp -implicitDefEqProofs[H]<;>rfl) (Gh.cut' [56,1,2,3,15,55] 3 (by simp) (by simp[hc0]) rfl (by simp) (by simp) (by simp)) (by simp) ?_
 rintro k ⟨⟩ hk hi;simp only[List.cons_append,List.nil_append];refine zR ?_;refine WpC.seq (zL (k<N) (λhlt=>?_) (λhge=>?_))
 ·refine WpC.skip ?_;have hkN:k<N:=hlt;have hkX:k<X.length:=by omega
  obtain⟨x,hx⟩:∃x,X[k]=x:=⟨_,rfl⟩
  have hxd:X.getD k default=x:=by rw[List.getD_eq_getElem?_getD,List.getElem?_eq_getElem hkX,hx];rfl
  have hw:IntKind.i64.wrap ((k:Int)+1)=k+1:=am (by omega) (by omega)
  have hck:=hcs k;have hkl:=hcl k;have hki:=hci k;rw[rg,hxd] at hck;obtain⟨c,hc⟩:∃c,C N k=c:=⟨_,rfl⟩
  obtain⟨c2,hc2⟩:∃c,C N (k+1)=c:=⟨_,rfl⟩
  rw[hc] at hck hkl hki ⊢;rw[hc2] at hck ⊢;have hNc:N<=c.length:=by omega
  have hkc:k<c.length:=by omega
  have htc:List.take N (c.map Ce.enc)=c.map Ce.enc:=List.take_of_length_le (by simp;omega)
  have hpv:=ux x;have hcf:=qM (aE x) [dI k] _ B8 (λn=>!ek k n) (λn _=>Fn k n) (by have:=l_ x;omega)
  have hab:(aE x).all (ek k)=!(aE x).any (λn=>!ek k n):=by simp[List.all_eq_not_any_not]
  obtain⟨ab,hab2⟩:∃b,((aE x).any λn=>!ek k n)=b:=⟨_,rfl⟩
  rw[hab2] at hcf hab;replace H:=And.intro hlt (And.intro hkN (And.intro hkX (And.intro hx (And.intro hw (And.intro hNc (And.intro hkc (And.intro htc H)))))));refine WpC.seq ?_;refine WpC.block ?_;iterate 2 refine zR ?_
  refine WpC.seq ?_;refine WpC.region ?_;refine zO 1 ?_;refine zG B9 (hpv) ?_;refine zO 1 ?_;refine zB lu (hcf) ?_;refine zO 1 ?_;refine WpO.nil ?_;refine zC (λc68=>?_) (λc68=>?_)
  ·have c68':=zN c68;have habF:ab=false:=by simpa using c68
   have hone:=Bb x c l (by omega) hki λv hv=>by
    rw[habF] at hab;have:=List.all_eq_true.1 hab v hv;simp[ek] at this;omega
   have hfin:c2=c.set k (qb x c l):=by rw[hck,hab,habF];rfl
   obtain⟨vv,hvv⟩:∃v,qb x c l=v:=⟨_,rfl⟩
   rw[hvv] at hone hfin;replace H:=And.intro c68 H;refine WpC.drawn tabOk (by kernel_rfl) 0 (by simp) ?_
   refine yO 3 ?_;refine yO 2 ?_;refine DrO.lend (by simp) rfl (by simp -implicitDefEqProofs[H]<;>rfl) (by simp -implicitDefEqProofs[H]<;>rfl) (by simp -implicitDefEqProofs[H]<;>rfl) B7 ((WpF.mono hone λr S h=>h.1)) (by rfl) (by simp -implicitDefEqProofs[H]<;>rfl) ?_
   refine yO 2 ?_;refine DrO.nil ⟨by kernel_rfl,?_⟩
   refine zr ?_;exact⟨hlt,(),trivial,Gh.cut' [56,1,2,3,15,55] 3 (by simp -implicitDefEqProofs[H,c50',c68',hfin]) (by simp -implicitDefEqProofs[H,c50',c68',hfin]) rfl (by simp) (by simp) (by simp)⟩
  have c68':=zN c68;have habT:ab=true:=by simpa using c68
  have hfin:c2=c:=by rw[hck,hab,habT];rfl
  replace H:=And.intro c68 H;refine WpC.skip ?_;refine zr ?_;exact⟨hlt,(),trivial,Gh.cut' [56,1,2,3,15,55] 3 (by simp -implicitDefEqProofs[H,c50',c68',hfin]) (by simp -implicitDefEqProofs[H,c50',c68',hfin]) rfl (by simp) (by simp) (by simp)⟩
 refine WpC.exit ?_;have hkn:N=k:=by omega
 subst hkn;have hml:=hcl N;obtain⟨c,hc⟩:∃c,C N N=c:=⟨_,rfl⟩
 rw[hc] at hS0 hml ⊢;have hmc:m<c.length:=by omega
 have hNc:N<=c.length:=by omega
 obtain⟨u,hu⟩:∃u,c[m]=u:=⟨_,rfl⟩
 have hcm:ea c m=u:=by rw[ea,Int.toNat_natCast,List.getD_eq_getElem?_getD,List.getElem?_eq_getElem hmc,hu];rfl
 rw[hcm] at hS0;replace H:=And.intro hmN (And.intro hNc (And.intro hmc (And.intro hu H)));refine WpC.seq ?_;refine zR ?_;refine zC (λc81=>?_) (λc81=>?_)
 ·have c81':=zN c81;replace H:=And.intro c81 H;refine zR ?_;refine WpC.ret ?_;try simp only[aa,aj]
  refine zE ?_;rw[if_pos c81] at hS0;subst hS0;simp
 have c81':=zN c81;replace H:=And.intro c81 H;refine WpC.skip ?_;refine zR ?_;refine WpC.ret ?_;try simp only[aa,aj]
 refine zE ?_;rw[if_neg (by rw[c81];decide)] at hS0
 subst hS0;simp
end Go.Proofs.YtlhmejigmokbhaaGreatDoor.Pay
