/- The texts PayZ, JrT, JrD, JrE, one behind the other. No statement of the seed is proved here. -/
import Derived.Test.YtlhmejigmokbhaaGreatDoorMgxRsI
import Derived.Test.YtlhmejigmokbhaaGreatDoorMgBS
import Derived.Test.YtlhmejigmokbhaaGreatDoorMgBT
import GoSem.Core.Float
namespace Go.Proofs.YtlhmejigmokbhaaGreatDoor.Pay
open Go Ieee
set_option linter.unusedVariables false
set_option linter.unusedSimpArgs false
theorem Km (neg:Bool) (t drop:Nat) (n:Nat) (h:n=t*2^drop) (hd:drop<=n.log2+2):Toward.even.cut neg n drop=t:=by
 subst h;unfold Toward.cut;have hg:(1 <<<min drop ((t*2^drop).log2+2))=2^drop:=by
  rw[Nat.min_eq_left hd,Nat.shiftLeft_eq,Nat.one_mul]
 have h0:0<2^drop:=Nat.two_pow_pos _;simp only[hg];rw[Nat.mul_div_cancel _ h0,Nat.mul_mod_left];have h1:(decide (2^drop<2*0)||(2^drop==2*0&&t%2==1))=false:=by
  rw[Nat.mul_zero,decide_eq_false (by omega)]
  have:((2^drop==0):Bool)=false:=by rw[beq_eq_false_iff_ne];omega
  rw[this];rfl
 simp only[h1];rfl
theorem Kd {x k:Nat} (h:x≠0):(x*2^k).log2=x.log2+k:=by
 have h2:0<2^k:=Nat.two_pow_pos _;have hx:x*2^k≠0:=Nat.mul_ne_zero h (by omega)
 rw[Nat.log2_eq_iff hx];obtain⟨h3,h4⟩:=(Nat.log2_eq_iff h).1 rfl;constructor
 ·rw[Nat.pow_add];exact Nat.mul_le_mul_right _ h3
 ·rw[show x.log2+k+1=(x.log2+1)+k by omega,Nat.pow_add]
  exact Nat.mul_lt_mul_of_pos_right h4 h2
theorem K6 {a b c d:Nat} (h:a+b=c+d):(2:Nat)^a*2^b=2^c*2^d:=by rw[<-Nat.pow_add,<-Nat.pow_add,h]
theorem sig (E:Nat) {n:Nat} (h1:1<=n) (h2:n<=9007199254740992):∃t,t*2^(n.log2+E)=n*2^(E+52)/\2^52<=t/\t<2^53/\n.log2<=53:=by
 obtain⟨h3,h4⟩:=(Nat.log2_eq_iff (n:=n) (by omega)).1 rfl
 by_cases he:n=9007199254740992
 ·subst he;have:(9007199254740992:Nat).log2=53:=by decide+kernel
  rw[this];refine⟨2^52,?_,by omega,by omega,by omega⟩
  have e:(2:Nat)^53=9007199254740992:=rfl;exact(K6 (a:=52) (b:=53+E) (c:=53) (d:=E+52) (by omega)).trans (congrArg (· *2^(E+52)) e)
 ·have hl:n.log2<=52:=by
   apply Nat.le_of_lt_succ;rw[Nat.log2_lt (by omega)]
   omega
  refine⟨n*2^(52-n.log2),?_,?_,?_,by omega⟩
  ·rw[Nat.mul_assoc,<-Nat.pow_add,show 52-n.log2+(n.log2+E)=E+52 by omega]
  ·have:=Nat.mul_le_mul_right (2^(52-n.log2)) h3;rw[<-Nat.pow_add,show n.log2+(52-n.log2)=52 by omega] at this
   exact this
  ·have:=Nat.mul_lt_mul_of_pos_right h4 (Nat.two_pow_pos (52-n.log2));rw[<-Nat.pow_add,show n.log2+1+(52-n.log2)=53 by omega] at this
   exact this
theorem J1 {E:Nat} (hE:E=1022) (neg:Bool) {m n q:Nat} (h:m*2^q=n*2^(E+52)) (h1:1<=n) (h2:n<=9007199254740992):
 ∃t,t*2^(n.log2+E)=n*2^(E+52)/\2^52<=t/\t<2^53/\n.log2<=53/\double.nearest neg m ((q:Int)-1074)=double.word neg ((n.log2+E)*2^52+t):=by
 obtain⟨t,ht,hlo,hhi,hl⟩:=sig E h1 h2;refine⟨t,ht,hlo,hhi,hl,?_⟩;have hm:m≠0:=by
  rintro rfl;rw[Nat.zero_mul] at h;exact absurd h.symm (Nat.ne_of_gt (Nat.mul_pos (show 0<n from h1) (Nat.two_pow_pos _)))
 have hlog:m.log2+q=n.log2+(E+52):=by
  rw[<-Kd hm,h,Kd (by omega)]
 have hmin:∀x,x<1077*2^52->min x double.infRung=x:=by
  intro x hx;have:double.infRung=2047*2^52:=by decide
  rw[this];exact Nat.min_eq_left (by omega)
 unfold Format.nearest;rw[if_neg hm];have hlast:max ((q:Int)-1074+m.log2-double.fractionBits) double.leastPlace=(n.log2:Int)-52:=by
  have e1:(double.fractionBits:Int)=52:=rfl;have e2:double.leastPlace= -1074:=by decide
  rw[e1,e2];omega
 simp only[hlast];have e3:((n.log2:Int)-52-double.leastPlace).toNat=n.log2+E:=by
  have e2:double.leastPlace= -1074:=by decide
  rw[e2];omega
 have e4:double.binade=2^52:=by decide
 rw[e3,e4];have hcut:Toward.even.cut neg (m <<<((q:Int)-1074-((n.log2:Int)-52)).toNat) ((n.log2:Int)-52-((q:Int)-1074)).toNat=t:=by
  have e5:((q:Int)-1074-((n.log2:Int)-52)).toNat=q-(n.log2+E):=by omega
  have e6:((n.log2:Int)-52-((q:Int)-1074)).toNat=n.log2+E-q:=by omega
  rw[e5,e6,Nat.shiftLeft_eq];by_cases hc:n.log2+E<=q
  ·refine Km _ _ _ _ ?_ (by omega)
   rw[show n.log2+E-q=0 by omega,Nat.pow_zero,Nat.mul_one]
   refine Nat.eq_of_mul_eq_mul_right (Nat.two_pow_pos (n.log2+E)) ?_;rw[ht,<-h,Nat.mul_assoc,<-Nat.pow_add,show q-(n.log2+E)+(n.log2+E)=q by omega]
  ·refine Km _ _ _ _ ?_ ?_
   ·rw[show q-(n.log2+E)=0 by omega,Nat.pow_zero,Nat.mul_one]
    refine Nat.eq_of_mul_eq_mul_right (Nat.two_pow_pos q) ?_;rw[h,<-ht,Nat.mul_assoc,<-Nat.pow_add,show n.log2+E-q+q=n.log2+E by omega]
   ·rw[show q-(n.log2+E)=0 by omega,Nat.pow_zero,Nat.mul_one]
    omega
 rw[hcut,hmin _ (by omega)]
theorem Ko {E:Nat} (hE:E=1022) (neg:Bool) {m n q:Nat} (h:m*2^q=n*2^(E+52)) (h1:1<=n) (h2:n<=9007199254740992):double.nearest neg m ((q:Int)-1074)=double.nearest neg n 0:=by
 obtain⟨t,ht,_,_,_,e⟩:=J1 hE neg h h1 h2;obtain⟨t',ht',_,_,_,e'⟩:=J1 hE neg (m:=n) (n:=n) (q:=E+52) rfl h1 h2;have:t=t':=Nat.eq_of_mul_eq_mul_right (Nat.two_pow_pos (n.log2+E)) (by rw[ht,ht'])
 subst this;rw[e];have h0:(((E+52:Nat):Int)-1074)=0:=by omega
 rw[h0] at e';exact e'.symm
theorem Kn {E:Nat} (hE:E=1022) (neg:Bool) {n:Nat} (h1:1<=n) (h2:n<=9007199254740992):∃t,double.read (double.nearest neg n 0)= .number neg t (((n.log2+E:Nat):Int)-1074)/\t*2^(n.log2+E)=n*2^(E+52):=by
 obtain⟨t,ht,hlo,hhi,hl,e⟩:=J1 hE neg (m:=n) (n:=n) (q:=E+52) rfl h1 h2;have h0:(((E+52:Nat):Int)-1074)=0:=by omega
 rw[h0] at e;refine⟨t,?_,ht⟩;rw[e];have e1:double.signWeight=2^63:=by decide
 have e2:double.binade=2^52:=by decide
 have e3:double.infRung=2047*2^52:=by decide
 have e4:double.leastPlace= -1074:=by decide
 have hr:(n.log2+E)*2^52+t<2^63:=by omega
 unfold Format.read Format.word;rw[e1,e2,e3,e4];have hw:(if neg=true then 2^63+((n.log2+E)*2^52+t) else(n.log2+E)*2^52+t)%2^63=(n.log2+E)*2^52+t:=by
  cases neg<;>simp only[if_true,Bool.false_eq_true,if_false]<;>omega
 have hs:((if neg=true then 2^63+((n.log2+E)*2^52+t) else(n.log2+E)*2^52+t)/2^63%2==1)=neg:=by
  cases neg<;>simp only[if_true,Bool.false_eq_true,if_false]
  ·rw[Nat.div_eq_of_lt hr];rfl
  ·rw[show(2^63+((n.log2+E)*2^52+t))/2^63=1 by omega];rfl
 simp only[hw,hs];rw[if_neg (by omega),if_pos (by omega)]
 have h3:2^52+((n.log2+E)*2^52+t)%2^52=t:=by omega
 have h4:((n.log2+E)*2^52+t)/2^52-1=n.log2+E:=by omega
 rw[h3,h4];congr 1
def IsV (E:Nat) (d:Datum) (n:Int) (s:Bool):Prop:=∃(m q:Nat),d= .number s m ((q:Int)-1074)/\signed s m q=n*2^(E+52)
def K9 (n:Int):Nat:=FloatKind.f64.nearest n
theorem K1 (n:Int):K9 n=double.nearest (decide (n<0)) n.natAbs 0:=rfl
theorem Kf:K9 0=0:=by decide
def JV (n:Int):Prop:= -9007199254740992<=n/\n<=9007199254740992
theorem J6 (s:Bool) (m q:Nat):signed s m q=(if s=true then -1 else 1)*((m*2^q:Nat):Int):=by
 unfold signed;rw[Nat.shiftLeft_eq];cases s<;>simp
theorem KP {E:Nat} (hE:E=1022) {n:Int} (h:JV n):IsV E (double.read (K9 n)) n (decide (n<0)):=by
 unfold JV at h;by_cases h0:n=0
 ·subst h0;rw[Kf];exact⟨0,0,by decide,by rw[Int.zero_mul];rfl⟩
 ·obtain⟨t,e,ht⟩:=Kn hE (decide (n<0)) (n:=n.natAbs) (by omega) (by omega)
  rw[K1,e];refine⟨t,_,rfl,?_⟩;rw[J6,ht];by_cases hn:n<0
  ·simp only[hn,decide_true,if_true];rw[Int.natCast_mul];rw[show((n.natAbs:Nat):Int)= -n by omega]
   simp only[Int.natCast_pow];simp[Int.neg_mul]
  ·simp only[hn,decide_false,Bool.false_eq_true,if_false];rw[Int.natCast_mul];rw[show((n.natAbs:Nat):Int)=n by omega]
   simp only[Int.natCast_pow];simp
theorem J9 (s:Bool) (m a b:Nat) (h:b<=a):signed s m (a-b)*2^b=signed s m a:=by
 rw[J6,J6,Int.mul_assoc];congr 1
 have:((m*2^(a-b):Nat):Int)*2^b=((m*2^(a-b)*2^b:Nat):Int):=by
  rw[Int.natCast_mul (m*2^(a-b)) (2^b),Int.natCast_pow];rfl
 rw[this,Nat.mul_assoc,<-Nat.pow_add,show a-b+b=a by omega]
theorem KT {E:Nat} (hE:E=1022) {x y:Datum} {a b:Int} {s t:Bool} (hx:IsV E x a s) (hy:IsV E y b t) (hs:JV (a+b)) (hz:a+b=0->(s&&t)=false):(x.sum y).map double.write=some (K9 (a+b)):=by
 obtain⟨m,i,rfl,h1⟩:=hx;obtain⟨n,j,rfl,h2⟩:=hy;unfold JV at hs;simp only[Datum.sum,Option.map_some,Option.some.injEq,Format.write];have hb:min ((i:Int)-1074) ((j:Int)-1074)=((min i j:Nat):Int)-1074:=by omega
 rw[hb];have e1:((i:Int)-1074-(((min i j:Nat):Int)-1074)).toNat=i-min i j:=by omega
 have e2:((j:Int)-1074-(((min i j:Nat):Int)-1074)).toNat=j-min i j:=by omega
 rw[e1,e2];generalize hT:signed s m (i-min i j)+signed t n (j-min i j)=T;have hv:T*2^(min i j)=(a+b)*2^(E+52):=by
  rw[<-hT,Int.add_mul,Int.add_mul,J9 _ _ _ _ (by omega),J9 _ _ _ _ (by omega),h1,h2]
 have hp:(0:Int)<2^(min i j):=Int.pow_pos (by omega)
 have hq:(0:Int)<2^(E+52):=Int.pow_pos (by omega)
 by_cases h0:a+b=0
 ·rw[h0] at hv ⊢;have hT0:T=0:=by
   rw[Int.zero_mul] at hv;rcases Int.mul_eq_zero.1 hv with h|h
   ·exact h
   ·omega
  subst hT0;rw[if_pos rfl,hz h0,Kf];simp[Format.nearest,Format.word]
 ·have hTn:T≠0:=by
   rintro rfl;rw[Int.zero_mul] at hv;rcases Int.mul_eq_zero.1 hv.symm with h|h
   ·exact h0 h
   ·omega
  rw[if_neg hTn,K1];have hsg:(T<0)↔(a+b<0):=by
   constructor
   ·intro h;have:T*2^(min i j)<0:=Int.mul_neg_of_neg_of_pos h hp;rw[hv] at this;by_cases hh:a+b<0
    ·exact hh
    ·have:=Int.mul_nonneg (show 0<=a+b by omega) (Int.le_of_lt hq);omega
   ·intro h;have:(a+b)*2^(E+52)<0:=Int.mul_neg_of_neg_of_pos h hq;rw[<-hv] at this;by_cases hh:T<0
    ·exact hh
    ·have:=Int.mul_nonneg (show 0<=T by omega) (Int.le_of_lt hp);omega
  have hd:decide (T<0)=decide (a+b<0):=by simp only[hsg]
  rw[hd];refine Ko hE _ ?_ (by omega) (by omega)
  have:=congrArg Int.natAbs hv;have h2:(2:Int).natAbs=2:=rfl;rw[Int.natAbs_mul,Int.natAbs_mul,Int.natAbs_pow,Int.natAbs_pow,h2] at this;exact this
theorem Kp {a b:Int} (ha:JV a) (hb:JV b) (hs:JV (a+b)):FloatKind.f64.format.add (K9 a) (K9 b)=some (K9 (a+b)):=by
 obtain⟨E,hE⟩:∃E,E=1022:=⟨_,rfl⟩
 refine KT hE (KP hE ha) (KP hE hb) hs λh=>?_
 by_cases h1:a<0
 ·rw[decide_eq_false (p:=b<0) (by omega),Bool.and_false]
 ·rw[decide_eq_false h1,Bool.false_and]
end Go.Proofs.YtlhmejigmokbhaaGreatDoor.Pay
namespace Go.Proofs.YtlhmejigmokbhaaGreatDoor.Pay
open Go Go.RowKit
set_option linter.unusedVariables false
set_option linter.unusedSimpArgs false
theorem Ky (n:Int):FloatKind.f64.nearest n=K9 n:=rfl
theorem Ku {a:Int} (ha:JV a):FloatKind.f64.format.add (K9 a) 0=some (K9 a):=by
 have:=Kp (a:=a) (b:=0) ha (by unfold JV;omega) (by rw[Int.add_zero];exact ha)
 rwa [Kf,Int.add_zero] at this
def tot:List Pst->Int->Int->Option (Int×Int)
 |[],d,c=>some (d,c)
 |p::r,d,c=>if p.amt< -9223372036854775807\/9007199254740992-d-c<p.amt.natAbs then none else if 0<p.amt then tot r (d+p.amt.natAbs) c else tot r d (c+p.amt.natAbs)
def KS:Option (Int×Int)->FV
 |none=> .tup [.d (.cpx .f64 0 0),.d (dI 3)]
 |some (d,c)=> .tup [.d (.cpx .f64 (K9 d) (K9 c)),.d (dI 0)]
structure Tt where
 d:Int
 c:Int
set_option maxHeartbeats 4000000 in
theorem KG (l:List Pst) (hl:l.length<=1000000000) (hp:∀p∈l,aC p.amt):ah Tryz.prog 25 [.d (KQ l)] (KS (tot l 0 0)):=by
 obtain⟨R,hR⟩:∃R,tot l 0 0=R:=⟨_,rfl⟩
 rw[hR];refine ah.enter tabOk Tryz.func25 rfl (by show 1<=48;decide) ?_
 simp only[Tryz.f25];have H:=Kf;iterate 3 refine zR ?_
 refine WpC.seq ?_;refine zR ?_;refine WpC.block ?_;refine WpC.loopK [9,10] [4,5,11] (l.length) (⟨0,0⟩:Tt) (λk x=>[(4,.d (.cpx .f64 (K9 x.d) (K9 x.c))),(5,.d (dI (9007199254740992-x.d-x.c))),(11,.d (.int .i64 k))]) (λk x=>[]) (λk x=>0<=x.d/\0<=x.c/\x.d+x.c<=9007199254740992/\tot (l.drop k) x.d x.c=R) (by simp -implicitDefEqProofs[H]<;>rfl) (Gh.cut' [4,5,11,9,10] 0 (by simp -implicitDefEqProofs[H]) (by simp -implicitDefEqProofs[H]) rfl (by simp) (by simp) (by simp)) (⟨by simp,by simp,by simp,by simpa using hR⟩) ?_
 rintro k x hk hi;simp only[List.cons_append,List.nil_append];refine zR ?_;refine WpC.seq (zL (k<l.length) (λhlt=>?_) (λhge=>?_))
 ·refine WpC.skip ?_;obtain⟨d,c⟩:=x;obtain⟨hd,hc,hdc,ht⟩:=hi;simp only at hd hc hdc ht ⊢;rw[KJ hlt] at ht;have hpk:=hp l[k] (List.getElem_mem hlt);obtain⟨p,hpp⟩:∃p,l[k]=p:=⟨_,rfl⟩
  rw[hpp] at ht hpk;unfold aC at hpk;rw[tot] at ht;have hw:IntKind.i64.wrap ((k:Int)+1)=k+1:=am (by omega) (by omega)
  obtain⟨n,hn⟩:∃n,max p.amt (IntKind.i64.wrap (-p.amt))=n:=⟨_,rfl⟩
  have hr:=aX p.amt;obtain⟨rb,hrb⟩:∃b,aD p.amt=b:=⟨_,rfl⟩
  rw[hrb] at hr;have hna:rb=true->n=p.amt.natAbs:=λh=>by
   have h1: -9223372036854775807<=p.amt:=by rw[<-hrb] at h;exact of_decide_eq_true h
   have h2:IntKind.i64.wrap (-p.amt)= -p.amt:=am (by omega) (by omega)
   rw[<-hn,h2];omega
  have hrf:rb=false->p.amt< -9223372036854775807:=λh=>by
   rw[<-hrb] at h;have:=of_decide_eq_false h;omega
  have hrt:rb=true->¬p.amt< -9223372036854775807:=λh=>by
   rw[<-hrb] at h;have:=of_decide_eq_true h;omega
  replace H:=And.intro hlt (And.intro hpp (And.intro hw (And.intro hn H)));refine WpC.seq ?_;refine WpC.block ?_;iterate 2 refine zR ?_
  refine WpC.seq ?_;refine WpC.seq ?_;refine WpC.val 29 (.d (.bool (decide (rb=false\/9007199254740992-d-c<n)))) ?_ ?_
  ·refine WpC.region ?_;refine zO 2 ?_;refine zG a_ (hr) ?_;refine zO 2 ?_;refine zS 25 (λg25=>?_) (λg25=>?_)
   ·have g25':=zN g25;replace H:=And.intro g25 H;refine zO 4 ?_;refine WpO.nil ?_;refine⟨rfl,Gh.only 29 10 ?_ (by first|rfl|simp -implicitDefEqProofs[H]) (by rfl)⟩
    simp -implicitDefEqProofs[H,g25']
   have g25':=zN g25;replace H:=And.intro g25 H;refine zO 4 ?_;refine WpO.nil ?_;refine⟨rfl,Gh.only 29 10 ?_ (by first|rfl|simp -implicitDefEqProofs[H]) (by rfl)⟩
   simp -implicitDefEqProofs[H,g25']
  refine zD (rb=false\/9007199254740992-d-c<n) (λd29=>?_) (λd29=>?_)
  ·rw[if_pos (by rcases d29 with h|h;exact .inl (hrf h);cases rb with|false=>exact .inl (hrf rfl)|true=>exact .inr (by rw[<-hna rfl];exact h))] at ht
   replace H:=And.intro d29 H;refine zR ?_;refine WpC.ret ?_;try simp only[aa,aj]
   refine zE ?_;subst ht;simp[KS]
  have hrb1:rb=true:=by cases rb with|true=>rfl|false=>exact absurd (.inl rfl) d29
  have hnn:=hna hrb1;have hle:¬9007199254740992-d-c<n:=λh=>d29 (.inr h)
  rw[if_neg (by rw[<-hnn];exact λh=>h.elim (hrt hrb1) hle),<-hnn] at ht
  have sd:JV d:=by unfold JV;omega
  have sc:JV c:=by unfold JV;omega
  have sn:JV n:=by unfold JV;omega
  have hn0:0<=n:=by omega
  have hw1:IntKind.i64.wrap (9007199254740992-d-c-n)=9007199254740992-d-c-n:=am (by omega) (by omega)
  have a1:=Kp sd sn (by unfold JV;omega)
  have a2:=Kp sc sn (by unfold JV;omega)
  have a3:=Ku sd;have a4:=Ku sc;have e1:9007199254740992-d-c-n=9007199254740992-(d+n)-c:=by omega
  have e2:9007199254740992-d-c-n=9007199254740992-d-(c+n):=by omega
  replace H:=And.intro d29 (And.intro hw1 (And.intro Ky (And.intro a1 (And.intro a2 (And.intro a3 (And.intro a4 H))))));refine WpC.skip ?_;refine zR ?_;refine WpC.seq ?_;refine zR ?_;refine zD (0<p.amt) (λd35=>?_) (λd35=>?_)
  ·rw[if_pos d35] at ht;replace H:=And.intro d35 (And.intro e1 H);refine zR ?_;refine WpC.exit ?_;refine zr ?_;exact⟨hlt,⟨d+n,c⟩,⟨by simp only;omega,hc,by simp only;omega,ht⟩,Gh.cut' [4,5,11,9,10] 0 (by simp -implicitDefEqProofs[H]) (by simp) rfl (by simp) (by simp) (by simp)⟩
  rw[if_neg d35] at ht;replace H:=And.intro d35 (And.intro e2 H);refine WpC.skip ?_;iterate 2 refine zr ?_
  exact⟨hlt,⟨d,c+n⟩,⟨hd,by simp only;omega,by simp only;omega,ht⟩,Gh.cut' [4,5,11,9,10] 0 (by simp -implicitDefEqProofs[H]) (by simp) rfl (by simp) (by simp) (by simp)⟩
 refine WpC.exit ?_;have hkn:k=l.length:=by omega
 subst hkn;obtain⟨d,c⟩:=x;obtain⟨hd,hc,hdc,ht⟩:=hi;simp only at hd hc hdc ht ⊢;rw[List.drop_length,tot] at ht;refine zR ?_;refine WpC.ret ?_;try simp only[aa,aj]
 refine zE ?_;subst ht;simp[KS]
theorem K4 (p q:Pst):EqT Tryz.prog 72 [dI p.acc,dI p.ctr,dI p.amt] [dI q.acc,dI q.ctr,dI q.amt] (decide (p.acc=q.acc)&&decide (p.ctr=q.ctr)&&decide (p.amt=q.amt)):=by
 refine⟨by kernel_rfl,λw I vs us h1 h2=>?_⟩
 simp only[au,ar,dI] at h1 h2;obtain⟨_,_,rfl,rfl,_,_,rfl,rfl,_,_,rfl,rfl,rfl⟩:=h1;obtain⟨_,_,rfl,rfl,_,_,rfl,rfl,_,_,rfl,rfl,rfl⟩:=h2;have hu:=Tryz.underlying72;have hi:=Tryz.underlying3;have ha:∀w,(isAgg 3).run Tryz.prog w= .ok false w:=λw=>by simp[isAgg,run_underlying hi]
 unfold Op.equal;rw[show Op.maxDepth=9999+1 from rfl,run_equalIn_struct w _ _ _ _ (by simp only[Program.fieldsOf,hu]) (by kernel_rfl)]
 have he:∀(w:World) (a b:Int),(Op.equalIn 9999 3 (.int .i64 a) (.int .i64 b)).run Tryz.prog w= .ok (decide (a=b)) w:=λw a b=>by
  rw[show(9999:Nat)=9998+1 from rfl]
  unfold Op.equalIn;simp[run_underlying hi]
 by_cases h1:p.acc=q.acc<;>by_cases h2:p.ctr=q.ctr<;>by_cases h3:p.amt=q.amt<;>simp[Program.fieldsOf,hu,Op.eqFields,part,ha,he,h1,h2,h3]
def e0:K_:=⟨0,0,0,5,0,⟨[],⟨10000,0,0⟩,⟨0,0,0⟩,0,1000,0,0,9000,0,[],[],[]⟩,[]⟩
def p0:List Pst:=[⟨4000,5,10000⟩,⟨2000,5,-9000⟩,⟨2100,5,-1000⟩]
theorem of0:ofT e0 []=(p0,0):=by kernel_rfl
theorem K5:tot p0 0 0=some (10000,10000):=by kernel_rfl
theorem K8:Kr p0 2000 (-1)= -9000:=by kernel_rfl
theorem K7:(FloatKind.f64.format.order (K9 10000) 4666723172467343360==some .eq)=true:=by kernel_rfl
theorem KB:ah Tryz.prog 15 [] (.d (.bool true)):=by
 have h1:=K0 e0 [] (by decide) (by decide) (by decide)
 rw[of0] at h1;have h2:=KG p0 (by decide) (by simp[p0,aC])
 rw[K5,KS] at h2;have h3:=KA p0 2000 (-1) (by decide)
 rw[K8] at h3;have h4:=K4 ⟨4000,5,10000⟩ ⟨4000,5,10000⟩;simp only[decide_true,Bool.and_self] at h4;have hf:=K7;simp only[e0,p0,List.map_cons,List.map_nil] at h1 h2 h3;refine ah.enter tabOk Tryz.func15 rfl (by show 0<=50;decide) ?_
 simp only[Tryz.f15];have H:=hf;refine zR ?_;refine WpC.seq ?_;refine WpC.region ?_;refine zO 3 ?_;refine WpO.data (by simp) rfl (by simp -implicitDefEqProofs[H]<;>rfl) (by simp -implicitDefEqProofs[H]<;>rfl) (by simp -implicitDefEqProofs[H]<;>rfl) KF (by simp) (ah.le h1 (by simp[leA,FV.le,D.leL])) (by rfl) (by simp -implicitDefEqProofs[H]<;>rfl) ?_
 refine zO 5 ?_;refine WpO.nil ?_;refine WpC.seq ?_;refine WpC.region ?_;refine zO 1 ?_;refine zG KZ (h2) ?_;refine zO 5 ?_;refine WpO.nil ?_;refine WpC.seq ?_;refine WpC.region ?_;refine zO 12 ?_;refine WpO.eqS false (by simp) rfl (by simp -implicitDefEqProofs[H]<;>rfl) (by simp -implicitDefEqProofs[H]<;>rfl) (h4) (by simp -implicitDefEqProofs[H]<;>rfl) ?_
 refine zO 12 ?_;refine zO 5 ?_;refine zG KY (h3) ?_;refine zO 3 ?_;refine WpO.nil ?_;refine WpC.ret ?_;try simp only[aa,aj]
 refine zE ?_;simp -implicitDefEqProofs[H]
def JW (P:List Pst):Int:=(P.map Pst.amt).sum
theorem Kg (a b:List Pst):JW (a++b)=JW a+JW b:=by simp[JW]
def Pst.fine (c:Int) (x:Pst):Prop:=x.ctr=c/\¬x.amt=0/\ -2251799813685248<=x.amt/\x.amt<=2251799813685248
theorem JR {c sg a n:Int} (hs:sg=1\/sg= -1) (hn: -1125899906842624<=n/\n<=1125899906842624):(∀x∈JP c sg a n,x.fine c)/\JW (JP c sg a n)=sg*n:=by
 have hw:IntKind.i64.wrap (sg*n)=sg*n:=by rcases hs with rfl|rfl<;>exact am (by omega) (by omega)
 unfold JP;split
 ·rename_i h;subst h;simp[JW]
 ·rename_i h;refine⟨λx hx=>?_,by simp[JW,hw]⟩
  rw[List.mem_singleton] at hx;subst hx;refine⟨rfl,?_,?_,?_⟩<;>(simp only[hw];rcases hs with rfl|rfl<;>omega)
theorem J7 {c sg:Int} (hs:sg=1\/sg= -1) {acc:Nat->Int} {f:Nat->Int}:∀ {k:Nat},(∀i,i<k-> -1125899906842624<=f i/\f i<=1125899906842624)->
 (∀x∈(List.range k).flatMap λi=>JP c sg (acc i) (f i),x.fine c)/\JW ((List.range k).flatMap λi=>JP c sg (acc i) (f i))=sg*aJ f k
 |0,_=>⟨by simp,by simp[JW,show aJ f 0=0 from rfl]⟩
 |k+1,h=>by
  have⟨h1,h2⟩:=J7 (c:=c) hs (acc:=acc) (f:=f) (k:=k) λi hi=>h i (by omega)
  have⟨h3,h4⟩:=JR (c:=c) (a:=acc k) hs (h k (by omega))
  rw[JX,Kg,h2,h4,aO,Int.mul_add];exact⟨λx hx=>(List.mem_append.1 hx).elim (h1 x) (h3 x),rfl⟩
theorem JU {c:Int} {a b:List Pst} (h1:∀x∈a,x.fine c) (h2:∀x∈b,x.fine c):∀x∈a++b,x.fine c:=λx hx=>(List.mem_append.1 hx).elim (h1 x) (h2 x)
theorem Kl (f g:Nat->Int):∀k,aJ (λi=> -(f i+g i)) k= -(aJ f k+aJ g k)
 |0=>rfl
 |k+1=>by rw[aO,aO,aO,Kl f g k];omega
theorem Kk (f:Nat->Int):∀k,aJ (λi=> -f i) k= -aJ f k
 |0=>rfl
 |k+1=>by rw[aO,aO,Kk f k];omega
theorem J2 {f g:Nat->List Pst} {k:Nat} (h:∀i,i<k->f i=g i):(List.range k).flatMap f=(List.range k).flatMap g:=by
 induction k with
 |zero=>rfl
 |succ k ih=>rw[JX,JX,ih λi hi=>h i (by omega),h k (by omega)]
theorem Kj {r:Rs} {g p o:Int} (h:JY r=(g,p,o,true)):KD r=false/\(∀i,i<r.owed.length->J5 r.paid r.owed i=false)/\g=r.raw.gross+r.extra.gross/\p=r.raw.pretax+r.extra.pretax/\o=bB r.owed/\[g,p,o].any bE=false:=by
 unfold JY at h;split at h
 ·simp at h
 ·rename_i h1;split at h
  ·simp at h
  ·rename_i h2;simp only[Prod.mk.injEq,Bool.not_eq_true'] at h;obtain⟨rfl,rfl,rfl,h3⟩:=h;refine⟨by simpa using h1,λi hi=>?_,rfl,rfl,rfl,h3⟩
   have h2':(List.range r.owed.length).any (J5 r.paid r.owed)=false:=by simpa using h2
   have:=List.any_eq_false.1 h2' i (by simpa using hi)
   simpa using this
theorem Kt {e:K_} {l:List Ord} {g p o sg:Int} (hs:sg=1\/sg= -1) (h:JY e.r=(g,p,o,true)) (hm:Kh e.r l=true):
 (∀x∈Kc e l g p o sg,x.fine e.ctr)/\JW (Kc e l g p o sg)=sg*(g+o+e.r.short-e.r.net-e.r.tax-(bB e.r.paid+bB e.r.owed)-p-e.r.taken-bB e.r.garn)/\(Kc e l g p o sg).length<=13+e.r.garn.length:=by
 obtain⟨h1,h2,hg,hp,ho,h3⟩:=Kj h;have ng:=JT h3 (n:=g) (by simp)
 have np:=JT h3 (n:=p) (by simp)
 have no:=JT h3 (n:=o) (by simp)
 simp only[KD,Bool.or_eq_false_iff] at h1;obtain⟨⟨⟨f1,f2⟩,f3⟩,f4⟩:=h1;have n1:=JT f1 (n:=e.r.short) (by simp)
 have n2:=JT f1 (n:=e.r.net) (by simp)
 have n3:=JT f1 (n:=e.r.tax) (by simp)
 have n4:=JT f1 (n:=e.r.taken) (by simp)
 unfold Kh at hm;split at hm
 ·simp at hm
 rename_i hq;have hlen:e.r.paid.length=e.r.owed.length:=by omega
 have h6:e.r.paid.length<=6:=by omega
 have e1:((List.range e.r.paid.length).flatMap λ(i:Nat)=>JP e.ctr sg (2200+(i:Int)) (IntKind.i64.wrap (IntKind.i64.wrap (-(aQ e.r.paid i))-aQ e.r.owed i)))=(List.range e.r.paid.length).flatMap λ(i:Nat)=>JP e.ctr sg (2200+(i:Int)) (-(aQ e.r.paid i+aQ e.r.owed i)):=
  J2 λi hi=>by
   have a1:=JT f2 (n:=aQ e.r.paid i) (by rw[bO hi];exact List.getElem_mem hi)
   have a2:=JT f3 (n:=aQ e.r.owed i) (by rw[bO (by omega)];exact List.getElem_mem (by omega))
   rw[show IntKind.i64.wrap (-(aQ e.r.paid i))= -(aQ e.r.paid i) from am (by omega) (by omega),am (by omega) (by omega)]
   congr 1;omega
 have b1:∀i,i<e.r.paid.length-> -1125899906842624<= -(aQ e.r.paid i+aQ e.r.owed i)/\ -(aQ e.r.paid i+aQ e.r.owed i)<=1125899906842624:=λi hi=>by
  have:=h2 i (by omega)
  simp[J5,hi,bE] at this;omega
 have e2:((List.range e.r.garn.length).flatMap λ(i:Nat)=>JP e.ctr sg (IntKind.i64.wrap (3000+((l[i]?).map Ord.cred).getD 0)) (IntKind.i64.wrap (-(aQ e.r.garn i))))=(List.range e.r.garn.length).flatMap λ(i:Nat)=>JP e.ctr sg (IntKind.i64.wrap (3000+((l[i]?).map Ord.cred).getD 0)) (-(aQ e.r.garn i)):=
  J2 λi hi=>by
   have a1:=JT f4 (n:=aQ e.r.garn i) (by rw[bO hi];exact List.getElem_mem hi)
   rw[show IntKind.i64.wrap (-(aQ e.r.garn i))= -(aQ e.r.garn i) from am (by omega) (by omega)]
 have b2:∀i,i<e.r.garn.length-> -1125899906842624<= -(aQ e.r.garn i)/\ -(aQ e.r.garn i)<=1125899906842624:=λi hi=>by
  have a1:=JT f4 (n:=aQ e.r.garn i) (by rw[bO hi];exact List.getElem_mem hi)
  omega
 have q1:=JR (c:=e.ctr) (a:=4000) hs ng;have q2:=JR (c:=e.ctr) (a:=4100) hs no;have q3:=JR (c:=e.ctr) (a:=1700) hs n1;have q4:=JR (c:=e.ctr) (a:=2000) (n:= -e.r.net) hs (by omega)
 have q5:=JR (c:=e.ctr) (a:=2100) (n:= -e.r.tax) hs (by omega)
 have q6:=J7 (c:=e.ctr) (acc:=λi=>2200+(i:Int)) hs b1
 have q7:=JR (c:=e.ctr) (a:=2300) (n:= -p) hs (by omega)
 have q8:=JR (c:=e.ctr) (a:=2400) (n:= -e.r.taken) hs (by omega)
 have q9:=J7 (c:=e.ctr) (acc:=λi=>IntKind.i64.wrap (3000+((l[i]?).map Ord.cred).getD 0)) hs b2
 have t1:=J_ (λi:Nat=>JP e.ctr sg (2200+(i:Int)) (-(aQ e.r.paid i+aQ e.r.owed i))) (λi=>JQ _ _ _ _) e.r.paid.length
 have t2:=J_ (λi:Nat=>JP e.ctr sg (IntKind.i64.wrap (3000+((l[i]?).map Ord.cred).getD 0)) (-(aQ e.r.garn i))) (λi=>JQ _ _ _ _) e.r.garn.length
 have hw1:IntKind.i64.wrap (-e.r.net)= -e.r.net:=am (by omega) (by omega)
 have hw2:IntKind.i64.wrap (-e.r.tax)= -e.r.tax:=am (by omega) (by omega)
 have hw3:IntKind.i64.wrap (-p)= -p:=am (by omega) (by omega)
 have hw4:IntKind.i64.wrap (-e.r.taken)= -e.r.taken:=am (by omega) (by omega)
 unfold Kc;rw[e1,e2,hw1,hw2,hw3,hw4];refine⟨JU (JU (JU (JU (JU (JU (JU (JU q1.1 q2.1) q3.1) q4.1) q5.1) q6.1) q7.1) q8.1) q9.1,?_,?_⟩
 ·simp only[Kg];rw[q1.2,q2.2,q3.2,q4.2,q5.2,q6.2,q7.2,q8.2,q9.2,Kl,Kk];have z1:aJ (aQ e.r.owed) e.r.paid.length=bB e.r.owed:=by rw[hlen];rfl
  have z2:aJ (aQ e.r.paid) e.r.paid.length=bB e.r.paid:=rfl;have z3:aJ (aQ e.r.garn) e.r.garn.length=bB e.r.garn:=rfl;rw[z1,z2,z3];rcases hs with rfl|rfl<;>omega
 ·simp only[List.length_append];have l1:=JQ e.ctr sg 4000 g;have l2:=JQ e.ctr sg 4100 o;have l3:=JQ e.ctr sg 1700 e.r.short;have l4:=JQ e.ctr sg 2000 (-e.r.net);have l5:=JQ e.ctr sg 2100 (-e.r.tax);have l6:=JQ e.ctr sg 2300 (-p);have l7:=JQ e.ctr sg 2400 (-e.r.taken);omega
def crA (l:List Ord) (i:Nat):Ord:=⟨1+(i:Int),(l.getD i ⟨0,0,0,0⟩).pri,(l.getD i ⟨0,0,0,0⟩).claim,(l.getD i ⟨0,0,0,0⟩).bal⟩
def crL (l:List Ord) (k:Nat):List Ord:=(List.range k).map (crA l)
theorem Ka (l:List Ord) (k:Nat):(crL l k).length=k:=by simp[crL]
theorem K3 (l:List Ord) {k i:Nat} (h:i<k):(crL l k)[i]?=some (crA l i):=by simp[crL,h]
theorem KO {r:Rs} {prot LF g c:Int} {l:List Ord} (W:FM r prot l.length LF g) (ho:r.owed.length=r.paid.length) (hl:∀i,i<l.length->∃o,l[i]?=some o/\1<=o.cred/\o.cred<=999):
 ((ofT ⟨0,0,0,c,0,r,[]⟩ l).2=0\/(ofT ⟨0,0,0,c,0,r,[]⟩ l).2=3/\(ofT ⟨0,0,0,c,0,r,[]⟩ l).1=[])/\(∀x∈(ofT ⟨0,0,0,c,0,r,[]⟩ l).1,x.fine c)/\JW (ofT ⟨0,0,0,c,0,r,[]⟩ l).1=0/\(ofT ⟨0,0,0,c,0,r,[]⟩ l).1.length<=21:=by
 have hm:Kh r l=true:=by
  unfold Kh;rw[if_neg (by have:=W.paid.1;have:=W.garn.1;omega),List.all_eq_true]
  intro x hx;obtain⟨i,hi,rfl⟩:=List.mem_take_iff_getElem.1 hx;obtain⟨o,h1,h2,h3⟩:=hl i (by omega)
  rw[List.getElem?_eq_getElem (by omega)] at h1
  rw[Option.some.inj h1];simp[J8];omega
 unfold ofT;obtain⟨⟨G,P,O,ok⟩,hs⟩:∃q,JY r=q:=⟨_,rfl⟩
 simp only[hs,hm];cases ok with
 |false=>simp[JW]
 |true=>
  rw[if_neg (by simp),if_neg (by simp)]
  simp only[if_true];obtain⟨h1,h2,h3⟩:=Kt (e:=⟨0,0,0,c,0,r,[]⟩) (sg:=1) (.inl rfl) hs hm;obtain⟨_,_,rfl,rfl,rfl,_⟩:=Kj hs;simp only at h1 h2 h3;have w1:=W.left;have w2:=W.net;have w3:=W.short;have w4:=W.gsum;have w5:=W.garn;refine⟨.inl trivial,h1,?_,by omega⟩
  rw[h2];omega
theorem KI (P:List Pst) {k:Nat} (h:k<P.length):JW (P.take (k+1))=JW (P.take k)+P[k].amt:=by
 rw[List.take_add_one,List.getElem?_eq_getElem h,Kg];simp[JW]
theorem KC {c:Int}:∀ {P:List Pst},(∀x∈P,x.fine c)-> -(P.length*2251799813685248:Int)<=JW P/\JW P<=P.length*2251799813685248
 |[],_=>by simp[JW]
 |x::r,h=>by
  have h1:=KC (P:=r) λy hy=>h y (by simp[hy])
  have h2:=(h x (by simp)).2.2
  have e:JW (x::r)=x.amt+JW r:=by simp[JW]
  rw[e,List.length_cons];omega
theorem KN {R:List Ru} {X:List Ex} {rows:List Rw} {funds:List Fd} {prot:Int} {p:Inp} {ex:Sm} {y:Yr} {l:List Ord} (h:(cv R X rows funds prot p ex y l).2.2=0):
 (cv R X rows funds prot p ex y l).1.owed.length=(cv R X rows funds prot p ex y l).1.paid.length:=by
 unfold cv at h ⊢;split
 ·rfl
 ·rename_i h1;rw[if_neg h1] at h;split
  ·rename_i h2;rw[if_pos h2] at h;split
   ·rfl
   ·rename_i h3;rw[if_neg h3] at h;split
    ·rename_i h4;rw[if_pos h4] at h;split
     ·simp only[sv];rw[(ny h4).2.2.1];simp[ef,bP]
     ·rfl
    ·rfl
  ·rfl
set_option maxHeartbeats 8000000 in
theorem Ke (s:List UInt8) (rows:List Rw) (funds:List Fd) (prot:Int) (p:Inp) (ex:Sm) (y:Yr) (l:List Ord) (c:Int) (hp:p.ok) (hc:0<=c/\c<=255):
 ah Tryz.prog 8 [.d (o7 s rows funds prot p ex y l),.d (.int .u8 c)] (.d (.bool true)):=by
 have haw:=KB;have hwc:IntKind.i64.wrap c=c:=am (by omega) (by omega)
 refine ah.enter tabOk Tryz.func8 rfl (by show 2<=150;decide) ?_
 simp only[Tryz.f8];have H:=hwc;refine zR ?_;refine WpC.seq ?_;refine WpC.seq ?_;refine WpC.val 42 (.d (.bool (decide ((500:Int)<s.length\/(40:Int)<rows.length\/(40:Int)<funds.length\/(8:Int)<l.length)))) ?_ ?_
 ·refine WpC.region ?_;refine zO 5 ?_;refine zS 23 (λg23=>?_) (λg23=>?_)
  ·have g23':=zN g23;replace H:=And.intro g23 H;refine zO 12 ?_;refine zO 7 ?_;refine WpO.nil ?_;refine⟨rfl,Gh.only 42 25 ?_ (by first|rfl|simp -implicitDefEqProofs[H]) (by rfl)⟩
   simp -implicitDefEqProofs[H,g23']<;>omega
  have g23':=zN g23;replace H:=And.intro g23 H;refine zO 7 ?_;refine zS 30 (λg30=>?_) (λg30=>?_)
  ·have g30':=zN g30;replace H:=And.intro g30 H;refine zO 12 ?_;refine WpO.nil ?_;refine⟨rfl,Gh.only 42 26 ?_ (by first|rfl|simp -implicitDefEqProofs[H]) (by rfl)⟩
   simp -implicitDefEqProofs[H,g23',g30']<;>omega
  have g30':=zN g30;replace H:=And.intro g30 H;refine zO 7 ?_;refine zS 37 (λg37=>?_) (λg37=>?_)
  ·have g37':=zN g37;replace H:=And.intro g37 H;refine zO 5 ?_;refine WpO.nil ?_;refine⟨rfl,Gh.only 42 27 ?_ (by first|rfl|simp -implicitDefEqProofs[H]) (by rfl)⟩
   simp -implicitDefEqProofs[H,g23',g30',g37']<;>omega
  have g37':=zN g37;replace H:=And.intro g37 H;refine zO 5 ?_;refine WpO.nil ?_;refine⟨rfl,Gh.only 42 27 ?_ (by first|rfl|simp -implicitDefEqProofs[H]) (by rfl)⟩
  simp -implicitDefEqProofs[H,g23',g30',g37']<;>omega
 refine zD ((500:Int)<s.length\/(40:Int)<rows.length\/(40:Int)<funds.length\/(8:Int)<l.length) (λd42=>?_) (λd42=>?_)
 ·replace H:=And.intro d42 H;refine WpC.seq ?_;refine WpC.region ?_;refine zG Kb (haw) ?_;refine zO 1 ?_;refine WpO.nil ?_;refine WpC.ret ?_;try simp only[aa,aj]
  refine zE ?_;simp -implicitDefEqProofs[H]
 have hs5:s.length<=500:=by omega
 have hps:=gM s (by omega)
 have hpx:=(sV s).2.2;have hpl:=nL s;have hpe:=uA (s:=s);obtain⟨⟨R,X,pl,pe⟩,hpp⟩:∃q,bR s=q:=⟨_,rfl⟩
 rw[hpp] at hps hpl hpx hpe;simp only[jF] at hps hpl hpx hpe;replace H:=And.intro d42 H;refine WpC.skip ?_;refine WpC.seq ?_;refine WpC.region ?_;refine zO 2 ?_;refine zG iz (hps) ?_;refine zO 8 ?_;refine WpO.nil ?_;refine WpC.seq ?_;refine zR ?_;refine zD (¬pe=0) (λd52=>?_) (λd52=>?_)
 ·have hR0:=hpe d52;subst hR0;replace H:=And.intro d52 H;refine WpC.seq ?_;refine WpC.region ?_;refine zO 5 ?_;refine zG Kb (haw) ?_;refine zO 2 ?_;refine WpO.nil ?_;refine WpC.ret ?_;try simp only[aa,aj]
  refine zE ?_;simp -implicitDefEqProofs[H]
 have hc0:crL l 0=[]:=rfl;replace H:=And.intro d52 (And.intro hc0 H);refine WpC.skip ?_;refine zR ?_;refine WpC.seq ?_;refine zR ?_;refine WpC.block ?_;refine WpC.gh (Gh.nilArr 64 4 (t:=8) (by simp) (by simp)) ?_
 refine WpC.loopK [1,2,5,61,62] [8,63] (l.length) (():Unit) (λk _=>[(8,.sl 2 k),(63,.d (.int .i64 k))]) (λk _=>[.cells 35 [.d (.str s),.d (iG rows),.d (eF funds),.d (dI prot),.d (dI p.base),.d (dI p.bonus),.d (dI p.hours),.d (dI p.days),.d (.bool p.lead),.d (dI ex.gross),.d (dI ex.pretax),.d (dI ex.post),.d (dI y.taxable),.d (dI y.base),.d (dI y.tax),.d (.list 1 (y.paid.map dI)),.d (.list 1 (y.owed.map dI)),.d (dz l)],.cells 41 [.d (aL R),.d (aM X)],.arr 64 4 ((crL l k).map Ord.enc)]) (λk _=>True) (by simp -implicitDefEqProofs[H]<;>rfl) (Gh.cut' [8,63,1,2,5,61,62] 3 (by simp -implicitDefEqProofs[H]) (by simp -implicitDefEqProofs[H]) rfl (by simp) (by simp) (by simp)) (by simp) ?_
 rintro k ⟨⟩ hk hi;simp only[List.cons_append,List.nil_append];refine zR ?_;refine WpC.seq (zL (k<l.length) (λhlt=>?_) (λhge=>?_))
 ·refine WpC.skip ?_;obtain⟨o,ho⟩:∃o,l[k]=o:=⟨_,rfl⟩
  have hw:IntKind.i64.wrap ((k:Int)+1)=k+1:=am (by omega) (by omega)
  have hw2:IntKind.i64.wrap (1+(k:Int))=1+k:=am (by omega) (by omega)
  have hck:=Ka l k;have hcr:(crL l (k+1)).map Ord.enc=(crL l k).map Ord.enc++[.agg [dI (1+(k:Int)),dI o.pri,dI o.claim,dI o.bal]]:=by
   have hd:(l[k]?).getD ⟨0,0,0,0⟩=o:=by rw[List.getElem?_eq_getElem hlt,ho];rfl
   rw[crL,List.range_succ,List.map_append,List.map_append];simp[crL,crA,hd]
  have hk8:k<=8589934591:=by omega
  replace H:=And.intro hlt (And.intro ho (And.intro hw (And.intro hw2 (And.intro hck (And.intro hcr (And.intro hk8 H))))));refine WpC.seq ?_;refine WpC.block ?_;iterate 2 refine zR ?_
  iterate 2 refine zr ?_
  exact⟨hlt,(),trivial,Gh.pick [8,63,1,2,5,61,62] [0,1,5] (by simp -implicitDefEqProofs[H];rfl) (by simp -implicitDefEqProofs[H]) (by simp) (by simp) (by simp;rfl) (by simp -implicitDefEqProofs[H]) (by simp)⟩
 refine WpC.exit ?_;have hkn:k=l.length:=by omega
 subst hkn;have hwk:=fQ R X rows funds prot p ex av (crL l l.length) (by omega) (by omega) hpx hp (by omega) (by omega) jt (by rw[Ka];omega)
 have hwo:=pC (R:=R) (X:=X) (rows:=rows) (funds:=funds) (prot:=prot) (p:=p) (ex:=ex) (y:=av) (l:=crL l l.length) hpx hp jt;have hwe:=(pB (R:=R) (X:=X) (rows:=rows) (funds:=funds) (prot:=prot) (p:=p) (ex:=ex) (y:=av) (l:=crL l l.length)).2;have hol:=KN (R:=R) (X:=X) (rows:=rows) (funds:=funds) (prot:=prot) (p:=p) (ex:=ex) (y:=av) (l:=crL l l.length);obtain⟨⟨r,z,f⟩,hws⟩:∃q,cv R X rows funds prot p ex av (crL l l.length)=q:=⟨_,rfl⟩
 rw[hws] at hwk hwo hwe hol;simp only at hwk hwo hwe hol;have hcl:=Ka l l.length;replace H:=And.intro hcl H;refine WpC.seq ?_;refine WpC.region ?_;refine zO 12 ?_;refine WpO.gh (Gh.frz [2]) ?_;refine WpO.data (by simp) rfl (by simp -implicitDefEqProofs[H]<;>rfl) (by simp -implicitDefEqProofs[H]<;>rfl) (by simp -implicitDefEqProofs[H]<;>rfl) dM (by simp) ((ah.le hwk (by simp[leA,FV.le,D.leL,av,hcl]))) (by rfl) (by simp -implicitDefEqProofs[H]<;>rfl) ?_
 refine zO 9 ?_;refine WpO.nil ?_;refine WpC.seq ?_;refine zR ?_;refine zD (¬f=0) (λd94=>?_) (λd94=>?_)
 ·have hr0:=hwe d94;subst hr0;have hnl:fW.lines=[]:=rfl;replace H:=And.intro d94 (And.intro hnl H);refine WpC.seq ?_;refine WpC.region ?_;refine zO 5 ?_;refine zG Kb (haw) ?_;refine zO 2 ?_;refine WpO.nil ?_;refine WpC.ret ?_;try simp only[aa,aj]
  refine zE ?_;simp -implicitDefEqProofs[H]
 obtain⟨LF,g,W⟩:=hwo (by omega)
 have ho2:=hol (by omega)
 have hw6:=W.paid.1;have hw7:=W.garn.1;have hpo:=K0 ⟨0,0,0,c,0,r,[]⟩ (crL l l.length) (by simp only;omega) (by simp only;omega) (by simp only;omega)
 obtain⟨t1,t2,t3,t4⟩:=KO (c:=c) W ho2 λi hi=>⟨crA l i,K3 l (by rw[Ka] at hi;exact hi),by simp[crA];omega,by simp[crA];rw[Ka] at hi;omega⟩
 obtain⟨⟨P,ge⟩,hPe⟩:∃q,ofT ⟨0,0,0,c,0,r,[]⟩ (crL l l.length)=q:=⟨_,rfl⟩
 rw[hPe] at hpo t1 t2 t3 t4;simp only at hpo t1 t2 t3 t4;have z0:JW []=0:=rfl;replace H:=And.intro d94 (And.intro z0 H);refine WpC.skip ?_;refine WpC.seq ?_;refine WpC.region ?_;refine zO 5 ?_;refine WpO.data (by simp) rfl (by simp -implicitDefEqProofs[H]<;>rfl) (by simp -implicitDefEqProofs[H]<;>rfl) (by simp -implicitDefEqProofs[H]<;>rfl) KF (by simp) (ah.le hpo (by simp[leA,FV.le,D.leL,hcl])) (by rfl) (by simp -implicitDefEqProofs[H]<;>rfl) ?_
 refine zO 5 ?_;refine WpO.nil ?_;refine zR ?_;refine WpC.seq ?_;refine zR ?_;refine WpC.block ?_;refine WpC.loopK [1,14,15,111,112] [16,113] (P.length) (():Unit) (λk _=>[(16,.d (dI (JW (P.take k)))),(113,.d (.int .i64 k))]) (λk _=>[]) (λk _=>True) (by simp -implicitDefEqProofs[H]<;>rfl) (Gh.cut' [16,113,1,14,15,111,112] 0 (by simp -implicitDefEqProofs[H]) (by simp -implicitDefEqProofs[H]) rfl (by simp) (by simp) (by simp)) (by simp) ?_
 rintro k ⟨⟩ hk hi;simp only[List.cons_append,List.nil_append];refine zR ?_;refine WpC.seq (zL (k<P.length) (λhlt=>?_) (λhge=>?_))
 ·refine WpC.skip ?_;obtain⟨x,hx⟩:∃x,P[k]=x:=⟨_,rfl⟩
  have hxf:=t2 x (hx▸List.getElem_mem hlt);obtain⟨x1,x2,x3,x4⟩:=hxf;have hps2:=KI P hlt;have hpi:=KC (P:=P.take k) λy hy=>t2 y (List.mem_of_mem_take hy)
  rw[List.length_take] at hpi;rw[hx] at hps2;have hw:IntKind.i64.wrap ((k:Int)+1)=k+1:=am (by omega) (by omega)
  have hw3:IntKind.i64.wrap (JW (P.take k)+x.amt)=JW (P.take (k+1)):=by rw[hps2];exact am (by omega) (by omega)
  replace H:=And.intro hlt (And.intro hx (And.intro hw (And.intro hw3 (And.intro x1 (And.intro x2 H)))));refine WpC.seq ?_;refine WpC.block ?_;iterate 2 refine zR ?_
  refine WpC.seq ?_;refine WpC.val 130 (.d (.bool (false))) ?_ ?_
  ·refine WpC.region ?_;refine zO 10 ?_;refine WpO.nil ?_;refine⟨rfl,Gh.only 130 10 ?_ (by first|rfl|simp -implicitDefEqProofs[H]) (by rfl)⟩
   simp -implicitDefEqProofs[H]
  refine zF ?_;refine WpC.skip ?_;refine zr ?_;exact⟨hlt,(),trivial,Gh.cut' [16,113,1,14,15,111,112] 0 (by simp -implicitDefEqProofs[H]) (by simp) rfl (by simp) (by simp) (by simp)⟩
 refine WpC.exit ?_;have hkn:k=P.length:=by omega
 subst hkn;rw[List.take_of_length_le (Nat.le_refl _),t3];refine WpC.seq ?_;refine WpC.region ?_;refine zO 3 ?_;refine zS 134 (λg134=>?_) (λg134=>?_)
 ·have g134':=zN g134;replace H:=And.intro g134 H;refine zO 12 ?_;refine zO 1 ?_;refine zG Kb (haw) ?_;refine zO 2 ?_;refine WpO.nil ?_;refine WpC.ret ?_;try simp only[aa,aj]
  refine zE ?_;simp -implicitDefEqProofs[H]
 have g134':=zN g134;have hg3:ge=3/\P=[]:=t1.elim (λh=>absurd h (by simpa using g134)) id
 obtain⟨hg3,hP0⟩:=hg3;have hPl:P.length=0:=by rw[hP0];rfl
 replace H:=And.intro g134 (And.intro hg3 (And.intro hPl H));refine zO 12 ?_;refine zO 1 ?_;refine zG Kb (haw) ?_;refine zO 2 ?_;refine WpO.nil ?_;refine WpC.ret ?_;try simp only[aa,aj]
 refine zE ?_;simp -implicitDefEqProofs[H]
theorem journalOne_row {w:World} {e0 e1:List D} {v0 v1:Value} {i0 i1:TI} (y0:bU tab 8 35 e0) (y1:bU tab 8 5 e1) (t0:some i0=tab 35) (t1:some i1=tab 5)
 (z0:ar w (lt w) (eG i0 e0) v0) (z1:ar w (lt w) (eG i1 e1) v1) (hG:GOk w (lt w)):
 Calls Tryz.prog 8 #[v0,v1] w λe w'=>e= .returned (.bool true)/\Below w.heap.size w w':=by
 rw[rF] at t0;cases t0;rw[Ju] at t1;cases t1;obtain⟨s,rows,funds,prot,p,ex,y,l,hp,he⟩:=has_ask y0;obtain⟨i,rfl,hi0,hi1⟩:=rT y1 Ju;have z2:ar w (lt w) (.agg e0) v0:=z0;rw[he] at z2;refine WpF.law (Ke s rows funds prot p ex y l i hp ⟨hi0,hi1⟩) (λr S h=>h.1) (vs:=[v0,v1]) ?_ hG
 simp only[ap,ai];exact⟨v0,_,rfl,z2,v1,_,rfl,z1,rfl⟩
end Go.Proofs.YtlhmejigmokbhaaGreatDoor.Pay
