/- The texts SpH, SpI, one behind the other. No statement of the seed is proved here. -/
import Derived.Test.YtlhmejigmokbhaaGreatDoorMgO
namespace Go.Proofs.YtlhmejigmokbhaaGreatDoor.Pay
open Go Go.RowKit
set_option linter.unusedVariables false
set_option linter.unusedSimpArgs false
set_option maxRecDepth 20000
theorem Bx (y:Nat) (h0:0<y) (hy:y<18446744073709551616):ah Tryz.prog 140 [.d (.int .u64 y)] (.d (dI (63-y.log2:Nat))):=by
 have hl:=wT y h0 hy;have hb:y.log2<=63:=by have:=(Nat.log2_lt (by omega)).2 (show y<2^64 from hy);omega
 have hw:IntKind.i64.wrap (64-((y.log2:Int)+1))=((63-y.log2:Nat):Int):=by rw[am (by omega) (by omega)];omega
 obtain⟨r,hr⟩:∃r,63-y.log2=r:=⟨_,rfl⟩
 rw[hr] at hw ⊢;refine ah.enter tabOk Tryz.func140 rfl (by show 1<=6;decide) ?_
 simp only[Tryz.f140];have H:=hw;refine zR ?_;refine WpC.seq ?_;refine WpC.region ?_;refine zO 1 ?_;refine zG q7 (hl) ?_;refine zO 2 ?_;refine WpO.nil ?_;refine WpC.ret ?_;try simp only[aa,aj]
 refine zE ?_;simp -implicitDefEqProofs[H]
theorem Fl (a b:Nat) (ha:a<18446744073709551616):IntKind.u64.wrap ((a:Int).tdiv b)=((a/b:Nat):Int):=by
 rw[Int.tdiv_eq_ediv_of_nonneg (by omega),<-Int.natCast_ediv,lH,Nat.mod_eq_of_lt (Nat.lt_of_le_of_lt (Nat.div_le_self a b) ha)]
theorem Jh (a b:Nat):(a:Int).tmod b=((a%b:Nat):Int):=by
 rw[Int.tmod_eq_emod_of_nonneg (by omega),<-Int.natCast_emod]
theorem orU {a b s:Nat} (hs:s<=64) (h1:a*2^s<18446744073709551616) (h2:b<2^s) (h3:b<18446744073709551616):bits .or .u64 ((a*2^s:Nat):Int) (b:Int)=((a*2^s+b:Nat):Int):=by
 rw[bits_or_u64_nat _ _ h1 h3,Nat.mul_comm,<-Nat.two_pow_add_eq_or_of_lt h2]
theorem G4 {A B C r:Nat} (h:A+B=C+r) (hr:r<18446744073709551616):IntKind.u64.wrap (IntKind.u64.wrap (IntKind.u64.wrap (A:Int)+B)-IntKind.u64.wrap (C:Int))=(r:Int):=by
 simp only[IntKind.wrap_u64];omega
structure Dg (yn1 yn0 u d Q q r:Nat):Prop where
 e:q*yn1+r=u
 le:Q<=q
section
variable {yn1 yn0 u d Q q r:Nat}
theorem xS (hu:u<yn1*4294967296+yn0) (hd:d<4294967296) (hQ:(u*4294967296+d)/(yn1*4294967296+yn0)=Q) (h:Dg yn1 yn0 u d Q q r) (hc:4294967296<=q\/4294967296*r+d<q*yn0):0<q/\Dg yn1 yn0 u d Q (q-1) (r+yn1):=by
 obtain⟨he,hle⟩:=h;have hY:0<yn1*4294967296+yn0:=by omega
 have hq:0<q:=by
  rcases hc with hc|hc
  ·omega
  ·rcases Nat.eq_zero_or_pos q with rfl|h
   ·simp at hc
   ·exact h
 have hlt:Q<q:=by
  rw[<-hQ,Nat.div_lt_iff_lt_mul hY];rcases hc with hc|hc
  ·have h1:4294967296*(yn1*4294967296+yn0)<=q*(yn1*4294967296+yn0):=Nat.mul_le_mul_right _ hc;omega
  ·have h1:q*(yn1*4294967296+yn0)=q*yn1*4294967296+q*yn0:=by rw[Nat.mul_add,Nat.mul_assoc]
   rw[h1];omega
 refine⟨hq,?_,by omega⟩
 have h2:(q-1)*yn1+yn1=q*yn1:=by rw[<-Nat.succ_mul];congr 1;omega
 omega
theorem mA (hu:u<yn1*4294967296+yn0) (hQ:(u*4294967296+d)/(yn1*4294967296+yn0)=Q) (h:Dg yn1 yn0 u d Q q r) (hc:q*yn0<=4294967296*r+d):q=Q:=by
 obtain⟨he,hle⟩:=h;have hY:0<yn1*4294967296+yn0:=by omega
 have h1:q*(yn1*4294967296+yn0)=q*yn1*4294967296+q*yn0:=by rw[Nat.mul_add,Nat.mul_assoc]
 have h2:q<=Q:=by
  rw[<-hQ,Nat.le_div_iff_mul_le hY,h1];omega
 omega
theorem o9 (hu:u<yn1*4294967296+yn0) (h0:yn0<4294967296) (hQ:(u*4294967296+d)/(yn1*4294967296+yn0)=Q) (h:Dg yn1 yn0 u d Q q r) (hr:4294967296<=r):q=Q:=by
 have h1:q<4294967296:=by
  rcases Nat.lt_or_ge q 4294967296 with h'|h'
  ·exact h'
  ·have:4294967296*yn1<=q*yn1:=Nat.mul_le_mul_right _ h';have:=h.e;omega
 have h2:q*yn0<=4294967296*yn0:=Nat.mul_le_mul_right _ (by omega)
 exact mA hu hQ h (by omega)
theorem Dg.qle (h:Dg yn1 yn0 u d Q q r) (h1:0<yn1):q<=u:=by
 have h2:=Nat.le_mul_of_pos_right q h1;have:=h.e;omega
theorem DX (hu:u<yn1*4294967296+yn0) (hd:d<4294967296) (hQ:(u*4294967296+d)/(yn1*4294967296+yn0)=Q):Q<4294967296:=by
 rw[<-hQ,Nat.div_lt_iff_lt_mul (by omega)];omega
end
theorem yV {M u d1 d0 r1 r0 A B:Nat} (h1:u*M+d1=A+r1) (h0:r1*M+d0=B+r0):u*(M*M)+(d1*M+d0)=r0+(A*M+B):=by
 have h2:(u*M+d1)*M=(A+r1)*M:=by rw[h1]
 rw[Nat.add_mul,Nat.add_mul,Nat.mul_assoc] at h2;omega
theorem yU {u d1 d0 r1 r0 A B:Nat} (h1:u*4294967296+d1=A+r1) (h0:r1*4294967296+d0=B+r0):u*18446744073709551616+(d1*4294967296+d0)=r0+(A*4294967296+B):=by
 have h:=yV h1 h0;rw[show(4294967296:Nat)*4294967296=18446744073709551616 from by decide] at h
 exact h
theorem rz {Y u d1 d0 Q1 r1 Q0 r0:Nat} (hY:0<Y) (h1:u*4294967296+d1=Q1*Y+r1) (h0:r1*4294967296+d0=Q0*Y+r0) (hr:r0<Y):
 (u*18446744073709551616+(d1*4294967296+d0))/Y=Q1*4294967296+Q0/\(u*18446744073709551616+(d1*4294967296+d0))%Y=r0:=by
 have e:u*18446744073709551616+(d1*4294967296+d0)=r0+(Q1*4294967296+Q0)*Y:=by
  have:(Q1*4294967296+Q0)*Y=Q1*Y*4294967296+Q0*Y:=by rw[Nat.add_mul,Nat.mul_right_comm]
  rw[this];exact yU h1 h0
 rw[e];exact⟨by rw[Nat.add_mul_div_right _ _ hY,Nat.div_eq_of_lt hr,Nat.zero_add],by rw[Nat.add_mul_mod_self_right,Nat.mod_eq_of_lt hr]⟩
set_option maxHeartbeats 40000000 in
theorem qL (xh lo y:Nat) (hh:xh<y) (hl:lo<18446744073709551616) (hy:y<18446744073709551616):
 ah Tryz.prog 104 [.d (.int .u64 xh),.d (.int .u64 lo),.d (.int .u64 y)] (.tup [.d (.int .u64 (((xh*18446744073709551616+lo)/y:Nat):Int)),.d (.int .u64 (((xh*18446744073709551616+lo)%y:Nat):Int))]):=by
 have hy0:0<y:=by omega
 have hlead:=Bx y hy0 hy;obtain⟨s,hs⟩:∃s,63-y.log2=s:=⟨_,rfl⟩
 rw[hs] at hlead;have hlog:y.log2<=63:=by have:=(Nat.log2_lt (by omega)).2 (show y<2^64 from hy);omega
 have hs63:s<=63:=by omega
 have hq0:=Fl lo y hl;have hr0:=Jh lo y;have hq0b:IntKind.u64.wrap ((lo:Int)/(y:Int))=(lo:Int)/(y:Int):=by rw[Int.tdiv_eq_ediv_of_nonneg (by omega)] at hq0;rw[hq0,Int.natCast_ediv]
 have hz1:¬((y:Int)<=xh):=by omega
 have hz2:¬y=0:=by omega
 have hsw:IntKind.u64.wrap (s:Int)=s:=eQ (by omega) (by omega)
 have hp:0<2^s:=Nat.two_pow_pos s;obtain⟨P,hP⟩:∃P,2^s=P:=⟨_,rfl⟩
 have p64:(2:Nat)^64=18446744073709551616:=by decide
 have p63:(2:Nat)^63=9223372036854775808:=by decide
 have hpw:2^s*2^(64-s)=18446744073709551616:=by rw[<-Nat.pow_add,show s+(64-s)=64 from by omega,p64]
 obtain⟨R,hR⟩:∃R,2^(64-s)=R:=⟨_,rfl⟩
 have hYlo:9223372036854775808<=y*2^s:=by
  have h1:=Nat.log2_self_le (n:=y) (by omega)
  have h2:2^y.log2*2^s<=y*2^s:=Nat.mul_le_mul_right _ h1;rw[<-Nat.pow_add,show y.log2+s=63 from by omega,p63] at h2
  exact h2
 have hYhi:y*2^s<18446744073709551616:=by
  have h1:=Nat.lt_log2_self (n:=y);have h2:y*2^s<2^(y.log2+1)*2^s:=Nat.mul_lt_mul_of_pos_right h1 hp;rw[<-Nat.pow_add,show y.log2+1+s=64 from by omega,p64] at h2
  exact h2
 have sh1:=Fg y (k:=s) (by omega)
 rw[Nat.mod_eq_of_lt hYhi] at sh1;obtain⟨Y,hY⟩:∃Y,y*2^s=Y:=⟨_,rfl⟩
 have hhs:xh*2^s+2^s<=y*2^s:=by
  have:(xh+1)*2^s<=y*2^s:=Nat.mul_le_mul_right _ hh;rw[Nat.add_mul,Nat.one_mul] at this;exact this
 have sh2:=Fg xh (k:=s) (by omega)
 rw[Nat.mod_eq_of_lt (by omega)] at sh2
 have sh3:=ur lo (k:=64-s) (by omega)
 have hrl:lo/2^(64-s)<2^s:=by
  rw[Nat.div_lt_iff_lt_mul (Nat.two_pow_pos _),hpw];exact hl
 have sh4:=orU (a:=xh) (b:=lo/2^(64-s)) (s:=s) (by omega) (by omega) hrl (by omega)
 have sh5:=Fg lo (k:=s) (by omega)
 have hlo2:lo*2^s=lo/2^(64-s)*18446744073709551616+lo*2^s%18446744073709551616:=by
  have e1:lo*2^s/18446744073709551616=lo/2^(64-s):=by
   rw[<-hpw,Nat.mul_comm lo,Nat.mul_div_mul_left _ _ hp]
  rw[<-e1];omega
 obtain⟨u,hu⟩:∃u,xh*2^s+lo/2^(64-s)=u:=⟨_,rfl⟩
 obtain⟨v,hv⟩:∃v,lo*2^s%18446744073709551616=v:=⟨_,rfl⟩
 have hN:(xh*18446744073709551616+lo)*2^s=u*18446744073709551616+v:=by
  rw[Nat.add_mul,Nat.mul_right_comm];omega
 have huY:u<Y:=by omega
 have hdiv:(xh*18446744073709551616+lo)/y=(u*18446744073709551616+v)/Y:=by
  rw[<-hN,<-hY,Nat.mul_div_mul_right _ _ hp]
 have hmod:(xh*18446744073709551616+lo)%y=(u*18446744073709551616+v)%Y/2^s:=by
  rw[<-hN,<-hY,Nat.mul_mod_mul_right,Nat.mul_div_cancel _ hp]
 rw[hY] at sh1 hYlo hYhi;rw[hu] at sh4;rw[hv] at sh5;have hv2:v<18446744073709551616:=by omega
 have sw64:IntKind.u64.wrap (64-(s:Int))=((64-s:Nat):Int):=by rw[eQ (by omega) (by omega)];omega
 obtain⟨a1,ha1⟩:∃q,xh*2^s=q:=⟨_,rfl⟩
 obtain⟨a2,ha2⟩:∃q,lo/2^(64-s)=q:=⟨_,rfl⟩
 obtain⟨s64,hs64⟩:∃q,64-s=q:=⟨_,rfl⟩
 rw[ha1] at sh2 sh4;rw[ha2] at sh3 sh4;rw[hs64] at sh3 sw64;have mk1:=rK Y;have mk2:=qh Y hYhi;have mk3:=rK v;have mk4:=qh v hv2;obtain⟨n1,hn1⟩:∃q,Y/4294967296=q:=⟨_,rfl⟩
 obtain⟨n0,hn0⟩:∃q,Y%4294967296=q:=⟨_,rfl⟩
 obtain⟨d1,hd1⟩:∃q,v/4294967296=q:=⟨_,rfl⟩
 obtain⟨d0,hd0⟩:∃q,v%4294967296=q:=⟨_,rfl⟩
 rw[hn1] at mk1;rw[hn0] at mk2;rw[hd1] at mk3;rw[hd0] at mk4;have hYe:n1*4294967296+n0=Y:=by rw[<-hn1,<-hn0];exact Nat.div_add_mod' _ _
 have hve:d1*4294967296+d0=v:=by rw[<-hd1,<-hd0];exact Nat.div_add_mod' _ _
 have hn1lo:2147483648<=n1:=by omega
 have hn1hi:n1<4294967296:=by omega
 have hn0hi:n0<4294967296:=by omega
 have hn10:¬n1=0:=by omega
 have hd1hi:d1<4294967296:=by omega
 have hd0hi:d0<4294967296:=by omega
 obtain⟨Q1,hQ1⟩:∃q,(u*4294967296+d1)/Y=q:=⟨_,rfl⟩
 obtain⟨r1,hr1⟩:∃q,(u*4294967296+d1)%Y=q:=⟨_,rfl⟩
 have hdm1:u*4294967296+d1=Q1*Y+r1:=by rw[<-hQ1,<-hr1];exact(Nat.div_add_mod' _ _).symm
 have hr1Y:r1<Y:=by rw[<-hr1];exact Nat.mod_lt _ (by omega)
 obtain⟨Q0,hQ0⟩:∃q,(r1*4294967296+d0)/Y=q:=⟨_,rfl⟩
 obtain⟨r0,hr0'⟩:∃q,(r1*4294967296+d0)%Y=q:=⟨_,rfl⟩
 have hdm0:r1*4294967296+d0=Q0*Y+r0:=by rw[<-hQ0,<-hr0'];exact(Nat.div_add_mod' _ _).symm
 have hr0Y:r0<Y:=by rw[<-hr0'];exact Nat.mod_lt _ (by omega)
 obtain⟨td1,td2⟩:=rz (by omega) hdm1 hdm0 hr0Y
 rw[hve] at td1 td2;rw[td1] at hdiv;rw[td2] at hmod;have hu':u<n1*4294967296+n0:=by omega
 have hr1':r1<n1*4294967296+n0:=by omega
 rw[<-hYe] at hQ1 hQ0;have hQ1l:=DX hu' hd1hi hQ1;have hQ0l:=DX hr1' hd0hi hQ0;have fq1:IntKind.u64.wrap ((u:Int).tdiv n1)=((u/n1:Nat):Int):=Fl u n1 (by omega)
 have fq0:IntKind.u64.wrap ((r1:Int).tdiv n1)=((r1/n1:Nat):Int):=Fl r1 n1 (by omega)
 obtain⟨b1,hb1⟩:∃q,u/n1=q:=⟨_,rfl⟩
 obtain⟨b0,hb0⟩:∃q,r1/n1=q:=⟨_,rfl⟩
 rw[hb1] at fq1;rw[hb0] at fq0;have fq1b:IntKind.u64.wrap ((u:Int)/(n1:Int))=(b1:Int):=by rw[Int.tdiv_eq_ediv_of_nonneg (by omega)] at fq1;exact fq1
 have fq0b:IntKind.u64.wrap ((r1:Int)/(n1:Int))=(b0:Int):=by rw[Int.tdiv_eq_ediv_of_nonneg (by omega)] at fq0;exact fq0
 have start:∀ {w d Q b:Nat},w<n1*4294967296+n0->d<4294967296->(w*4294967296+d)/(n1*4294967296+n0)=Q->w/n1=b->∃p r,b*n1=p/\p<18446744073709551616/\w-p=r/\p<=w/\r<4294967296/\Dg n1 n0 w d Q b r:=by
  intro w d Q b hw hd hQ hb;have e1:b*n1+w%n1=w:=by rw[<-hb];exact Nat.div_add_mod' _ _
  have e2:w%n1<n1:=Nat.mod_lt _ (by omega)
  refine⟨b*n1,w-b*n1,rfl,by omega,rfl,by omega,by omega,by omega,?_⟩
  rw[<-hQ,<-hb,Nat.le_div_iff_mul_le (by omega)]
  have e3:=Nat.div_mul_le_self (w*4294967296+d) (n1*4294967296+n0);obtain⟨q,hq⟩:∃q,(w*4294967296+d)/(n1*4294967296+n0)=q:=⟨_,rfl⟩
  rw[hq] at e3 ⊢;have e4:q*(n1*4294967296+n0)=q*n1*4294967296+q*n0:=by rw[Nat.mul_add,Nat.mul_assoc]
  omega
 obtain⟨p1,t1,hp1,hp1l,ht1,hp1u,ht1l,hg1⟩:=start hu' hd1hi hQ1 hb1;obtain⟨p0,t0,hp0,hp0l,ht0,hp0u,ht0l,hg0⟩:=start hr1' hd0hi hQ0 hb0;have fm1:=oT hp1 hp1l;have fm0:=oT hp0 hp0l;have fs1:IntKind.u64.wrap ((u:Int)-p1)=(t1:Int):=by rw[eQ (by omega) (by omega)];omega
 have fs0:IntKind.u64.wrap ((r1:Int)-p0)=(t0:Int):=by rw[eQ (by omega) (by omega)];omega
 have fr1:IntKind.u64.wrap (IntKind.u64.wrap (IntKind.u64.wrap ((u:Int)*4294967296)+d1)-IntKind.u64.wrap ((Q1:Int)*Y))=(r1:Int):=by
  have:=G4 hdm1 (by omega);rwa [Int.natCast_mul,Int.natCast_mul] at this
 have fr0:IntKind.u64.wrap (IntKind.u64.wrap (IntKind.u64.wrap ((r1:Int)*4294967296)+d0)-IntKind.u64.wrap ((Q0:Int)*Y))=(r0:Int):=by
  have:=G4 hdm0 (by omega);rwa [Int.natCast_mul,Int.natCast_mul] at this
 obtain⟨z1,hz1'⟩:∃q,Q1*4294967296=q:=⟨_,rfl⟩
 have ff1:IntKind.u64.wrap ((Q1:Int)*4294967296)=(z1:Int):=oT (b:=4294967296) hz1' (by omega)
 obtain⟨z,hz'⟩:∃q,z1+Q0=q:=⟨_,rfl⟩
 have ff2:=yK hz' (by omega)
 have ff3:=ur r0 (k:=s) (by omega)
 have hz3:(s:Int).toNat=s:=by omega
 rw[hdiv,hmod,hz1',hz'];obtain⟨rr,hrr⟩:∃q,r0/2^s=q:=⟨_,rfl⟩
 rw[hrr] at ff3 ⊢;refine ah.enter tabOk Tryz.func104 rfl (by show 3<=135;decide) ?_
 simp only[Tryz.f104];have H:=And.intro hz1 (And.intro hz2 (And.intro hn10 (And.intro hsw (And.intro sh1 (And.intro sh2 (And.intro sh3 (And.intro sh4 (And.intro sh5 (And.intro sw64 (And.intro mk1 (And.intro mk2 (And.intro mk3 (And.intro mk4 (And.intro fq1 (And.intro fq0 (And.intro fq1b (And.intro fq0b (And.intro fm1 (And.intro fm0 (And.intro fs1 (And.intro fs0 (And.intro fr1 (And.intro fr0 (And.intro ff1 (And.intro ff2 ff3)))))))))))))))))))))))));refine zR ?_;refine WpC.seq ?_;refine zR ?_;refine zF ?_;refine WpC.skip ?_;refine WpC.seq ?_;refine zR ?_;refine zF ?_;refine WpC.skip ?_;refine WpC.seq ?_;refine zR ?_;refine zD (xh=0) (λd27=>?_) (λd27=>?_)
 ·have hd2:(xh*18446744073709551616+lo)/y=lo/y:=by rw[d27,Nat.zero_mul,Nat.zero_add]
  have hm2:(xh*18446744073709551616+lo)%y=lo%y:=by rw[d27,Nat.zero_mul,Nat.zero_add]
  have hd3:z=lo/y:=by rw[<-hd2,hdiv,hz1',hz']
  have hm3:rr=lo%y:=by rw[<-hm2,hmod,hrr]
  rw[hd3,hm3];replace H:=And.intro d27 (And.intro hq0 (And.intro hr0 (And.intro hq0b H)));refine WpC.seq (WpC.drawn tabOk (by kernel_rfl) 0 (by simp) ?_)
  iterate 2 refine yO 3 ?_
  refine yO 2 ?_;refine DrO.nil ⟨by kernel_rfl,?_⟩
  refine WpC.ret ?_;try simp only[aa,aj]
  refine zE ?_;simp -implicitDefEqProofs[H]
 replace H:=And.intro d27 H;refine WpC.skip ?_;refine WpC.seq ?_;refine WpC.region ?_;refine zO 1 ?_;refine zG ym (hlead) ?_;refine zO 2 ?_;refine WpO.nil ?_;iterate 9 refine zR ?_
 refine WpC.seq ?_;refine WpC.join ⟨[(2,.d (.int .u64 Y)),(8,.d (.int .u64 s)),(9,.d (.int .u64 n1)),(10,.d (.int .u64 n0)),(11,.d (.int .u64 u)),(13,.d (.int .u64 d1)),(14,.d (.int .u64 d0)),(15,.d (.int .u64 Q1))],[],135,0⟩ ?_ ?_
 ·refine WpC.block ?_;refine WpC.loopM [2,8,9,10,11,13,14] [15,16] (λx=>x.1) ((b1,t1):Nat×Nat) (λx=>[(15,.d (.int .u64 (x.1:Nat))),(16,.d (.int .u64 (x.2:Nat)))]) (λx=>[]) (λx=>Dg n1 n0 u d1 Q1 x.1 x.2/\x.2<4294967296) (by simp -implicitDefEqProofs[H]<;>rfl) (Gh.cut' [15,16,2,8,9,10,11,13,14] 0 (by simp -implicitDefEqProofs[H]) (by simp -implicitDefEqProofs[H]) rfl (by simp) (by simp) (by simp)) (⟨hg1,ht1l⟩) ?_
  rintro x hi;simp only[List.cons_append,List.nil_append];obtain⟨q,r⟩:=x;obtain⟨hi,hrl⟩:=hi;simp only at hi hrl ⊢;have hqb:q<=u:=hi.qle (by omega)
  refine WpC.seq ?_;refine WpC.seq ?_;refine WpC.val 78 (.d (.bool (decide (4294967296<=q\/4294967296*r+d1<q*n0)))) ?_ ?_
  ·refine WpC.region ?_;refine zO 3 ?_;refine zS 69 (λg69=>?_) (λg69=>?_)
   ·have g69':=zN g69;replace H:=And.intro g69 H;refine zO 9 ?_;refine WpO.nil ?_;refine⟨rfl,Gh.only 78 13 ?_ (by first|rfl|simp -implicitDefEqProofs[H]) (by rfl)⟩
    simp -implicitDefEqProofs[H,g69']<;>omega
   have g69':=zN g69;have hql:q<4294967296:=by simp at g69;omega
   obtain⟨pq,hpq⟩:∃p,q*n0=p:=⟨_,rfl⟩
   have hpl:pq<18446744073709551616:=by
    have:q*n0<=4294967296*n0:=Nat.mul_le_mul_right _ (by omega)
    omega
   have em1:=oT hpq hpl;have em2:IntKind.u64.wrap (4294967296*(r:Int))=4294967296*(r:Int):=eQ (by omega) (by omega)
   have em3:IntKind.u64.wrap (4294967296*(r:Int)+d1)=4294967296*(r:Int)+d1:=eQ (by omega) (by omega)
   have hqf:¬4294967296<=q:=by omega
   have em6:(4294967296*(r:Int)+(d1:Int)<(pq:Int))=(4294967296*r+d1<pq):=propext ⟨λh=>by omega,λh=>by omega⟩
   replace H:=And.intro g69 (And.intro hpq (And.intro em1 (And.intro em2 (And.intro em3 (And.intro em6 (And.intro hqf H))))));refine zO 9 ?_;refine WpO.nil ?_;refine⟨rfl,Gh.only 78 13 ?_ (by first|rfl|simp -implicitDefEqProofs[H]) (by rfl)⟩
   simp -implicitDefEqProofs[H,g69']<;>omega
  refine zD (4294967296<=q\/4294967296*r+d1<q*n0) (λd78=>?_) (λd78=>?_)
  ·obtain⟨hq0,hdg⟩:=xS hu' hd1hi hQ1 hi d78;obtain⟨q',hq'⟩:∃p,q-1=p:=⟨_,rfl⟩
   obtain⟨r',hr'⟩:∃p,r+n1=p:=⟨_,rfl⟩
   rw[hq',hr'] at hdg;have em4:IntKind.u64.wrap ((q:Int)-1)=(q':Int):=by rw[eQ (by omega) (by omega)];omega
   have em5:IntKind.u64.wrap ((r:Int)+n1)=(r':Int):=by rw[eQ (by omega) (by omega)];omega
   replace H:=And.intro d78 (And.intro em4 (And.intro em5 H));refine WpC.skip ?_;refine WpC.block ?_;iterate 3 refine zR ?_
   refine zC (λc85=>?_) (λc85=>?_)
   ·have c85':=zN c85;replace H:=And.intro c85 H;refine WpC.exit ?_;first
    |(have hqq:q=Q1:=mA hu' hQ1 hi (by omega);subst hqq)
    |(have hqq:q'=Q1:=o9 hu' hn0hi hQ1 hdg (by simp at c85;omega);subst hqq)
    exact⟨rfl,Gh.cut' [2,8,9,10,11,13,14,15] 0 (by simp -implicitDefEqProofs[H,c85']) (by simp -implicitDefEqProofs[H,c85']) rfl (by simp) (by simp) (by simp)⟩
   have c85':=zN c85;replace H:=And.intro c85 H;refine WpC.skip ?_;exact⟨(q',r'),⟨hdg,by simp at c85;show r'<_;omega⟩,by show q'<q;omega,Gh.cut' [15,16,2,8,9,10,11,13,14] 0 (by simp -implicitDefEqProofs[H,c85']) (by simp) rfl (by simp) (by simp) (by simp)⟩
  replace H:=And.intro d78 H;refine WpC.exit ?_;first
  |(have hqq:q=Q1:=mA hu' hQ1 hi (by omega);subst hqq)
  |(have hqq:q'=Q1:=o9 hu' hn0hi hQ1 hdg (by simp at c85;omega);subst hqq)
  exact⟨rfl,Gh.cut' [2,8,9,10,11,13,14,15] 0 (by simp -implicitDefEqProofs[H]) (by simp -implicitDefEqProofs[H]) rfl (by simp) (by simp) (by simp)⟩
 iterate 3 refine zR ?_
 refine WpC.seq ?_;refine WpC.join ⟨[(2,.d (.int .u64 Y)),(8,.d (.int .u64 s)),(14,.d (.int .u64 d0)),(15,.d (.int .u64 Q1)),(17,.d (.int .u64 r1)),(18,.d (.int .u64 Q0))],[],135,0⟩ ?_ ?_
 ·refine WpC.block ?_;refine WpC.loopM [2,8,9,10,14,15,17] [16,18] (λx=>x.1) ((b0,t0):Nat×Nat) (λx=>[(16,.d (.int .u64 (x.2:Nat))),(18,.d (.int .u64 (x.1:Nat)))]) (λx=>[]) (λx=>Dg n1 n0 r1 d0 Q0 x.1 x.2/\x.2<4294967296) (by simp -implicitDefEqProofs[H]<;>rfl) (Gh.cut' [16,18,2,8,9,10,14,15,17] 0 (by simp -implicitDefEqProofs[H]) (by simp -implicitDefEqProofs[H]) rfl (by simp) (by simp) (by simp)) (⟨hg0,ht0l⟩) ?_
  rintro x hi;simp only[List.cons_append,List.nil_append];obtain⟨q,r⟩:=x;obtain⟨hi,hrl⟩:=hi;simp only at hi hrl ⊢;have hqb:q<=r1:=hi.qle (by omega)
  refine WpC.seq ?_;refine WpC.seq ?_;refine WpC.val 113 (.d (.bool (decide (4294967296<=q\/4294967296*r+d0<q*n0)))) ?_ ?_
  ·refine WpC.region ?_;refine zO 3 ?_;refine zS 104 (λg104=>?_) (λg104=>?_)
   ·have g104':=zN g104;replace H:=And.intro g104 H;refine zO 9 ?_;refine WpO.nil ?_;refine⟨rfl,Gh.only 113 13 ?_ (by first|rfl|simp -implicitDefEqProofs[H]) (by rfl)⟩
    simp -implicitDefEqProofs[H,g104']<;>omega
   have g104':=zN g104;have hql:q<4294967296:=by simp at g104;omega
   obtain⟨pq,hpq⟩:∃p,q*n0=p:=⟨_,rfl⟩
   have hpl:pq<18446744073709551616:=by
    have:q*n0<=4294967296*n0:=Nat.mul_le_mul_right _ (by omega)
    omega
   have em1:=oT hpq hpl;have em2:IntKind.u64.wrap (4294967296*(r:Int))=4294967296*(r:Int):=eQ (by omega) (by omega)
   have em3:IntKind.u64.wrap (4294967296*(r:Int)+d0)=4294967296*(r:Int)+d0:=eQ (by omega) (by omega)
   have hqf:¬4294967296<=q:=by omega
   have em6:(4294967296*(r:Int)+(d0:Int)<(pq:Int))=(4294967296*r+d0<pq):=propext ⟨λh=>by omega,λh=>by omega⟩
   replace H:=And.intro g104 (And.intro hpq (And.intro em1 (And.intro em2 (And.intro em3 (And.intro em6 (And.intro hqf H))))));refine zO 9 ?_;refine WpO.nil ?_;refine⟨rfl,Gh.only 113 13 ?_ (by first|rfl|simp -implicitDefEqProofs[H]) (by rfl)⟩
   simp -implicitDefEqProofs[H,g104']<;>omega
  refine zD (4294967296<=q\/4294967296*r+d0<q*n0) (λd113=>?_) (λd113=>?_)
  ·obtain⟨hq0,hdg⟩:=xS hr1' hd0hi hQ0 hi d113;obtain⟨q',hq'⟩:∃p,q-1=p:=⟨_,rfl⟩
   obtain⟨r',hr'⟩:∃p,r+n1=p:=⟨_,rfl⟩
   rw[hq',hr'] at hdg;have em4:IntKind.u64.wrap ((q:Int)-1)=(q':Int):=by rw[eQ (by omega) (by omega)];omega
   have em5:IntKind.u64.wrap ((r:Int)+n1)=(r':Int):=by rw[eQ (by omega) (by omega)];omega
   replace H:=And.intro d113 (And.intro em4 (And.intro em5 H));refine WpC.skip ?_;refine WpC.block ?_;iterate 3 refine zR ?_
   refine zC (λc120=>?_) (λc120=>?_)
   ·have c120':=zN c120;replace H:=And.intro c120 H;refine WpC.exit ?_;first
    |(have hqq:q=Q0:=mA hr1' hQ0 hi (by omega);subst hqq)
    |(have hqq:q'=Q0:=o9 hr1' hn0hi hQ0 hdg (by simp at c120;omega);subst hqq)
    exact⟨rfl,Gh.cut' [2,8,14,15,17,18] 0 (by simp -implicitDefEqProofs[H,c120']) (by simp -implicitDefEqProofs[H,c120']) rfl (by simp) (by simp) (by simp)⟩
   have c120':=zN c120;replace H:=And.intro c120 H;refine WpC.skip ?_;exact⟨(q',r'),⟨hdg,by simp at c120;show r'<_;omega⟩,by show q'<q;omega,Gh.cut' [16,18,2,8,9,10,14,15,17] 0 (by simp -implicitDefEqProofs[H,c120']) (by simp) rfl (by simp) (by simp) (by simp)⟩
  replace H:=And.intro d113 H;refine WpC.exit ?_;first
  |(have hqq:q=Q0:=mA hr1' hQ0 hi (by omega);subst hqq)
  |(have hqq:q'=Q0:=o9 hr1' hn0hi hQ0 hdg (by simp at c120;omega);subst hqq)
  exact⟨rfl,Gh.cut' [2,8,14,15,17,18] 0 (by simp -implicitDefEqProofs[H]) (by simp -implicitDefEqProofs[H]) rfl (by simp) (by simp) (by simp)⟩
 refine zR ?_;refine WpC.ret ?_;try simp only[aa,aj]
 refine zE ?_;simp -implicitDefEqProofs[H]
theorem vu (q l c:Nat):ah Tryz.prog 105 [.d (dI 0),.d (.int .u64 q),.d (.int .u64 l),.d (.int .u64 c)] (.d (.bool false)):=by
 refine ah.enter tabOk Tryz.func105 rfl (by show 4<=39;decide) ?_
 simp only[Tryz.f105];have H:=trivial;refine zR ?_;refine WpC.seq ?_;refine zR ?_;refine WpC.block ?_;refine zR ?_;refine zT ?_;refine zR ?_;refine WpC.ret ?_;try simp only[aa,aj]
 refine zE ?_;simp -implicitDefEqProofs[H]
def aD (n:Int):Bool:=decide (-9223372036854775807<=n)
theorem aX (n:Int):ah Tryz.prog 53 [.d (dI n)] (.d (.bool (aD n))):=by
 refine ah.enter tabOk Tryz.func53 rfl (by show 1<=5;decide) ?_
 simp only[Tryz.f53];have H:=trivial;iterate 2 refine zR ?_
 refine WpC.ret ?_;try simp only[aa,aj]
 refine zE ?_;simp[aD]
theorem nQ (a b c:Nat) (ha:a<=9223372036854775807) (hb:b<=c) (hc:0<c) (hc2:c<=9223372036854775807):
 ah Tryz.prog 80 [.d (dI a),.d (dI b),.d (dI c),.d (dI 0)] (.tup [.d (dI (a*b/c:Nat)),.d (dI 0)]):=by
 have hab:a*b<=a*c:=Nat.mul_le_mul_left _ hb;have hq:a*b/c<=a:=Nat.div_le_of_le_mul (by rw[Nat.mul_comm c];exact hab)
 have hm:=mf a b (by omega) (by omega)
 obtain⟨h,hh⟩:∃h,a*b/18446744073709551616=h:=⟨_,rfl⟩
 obtain⟨l,hl⟩:∃h,a*b%18446744073709551616=h:=⟨_,rfl⟩
 have hhl:h*18446744073709551616+l=a*b:=by rw[<-hh,<-hl];exact Nat.div_add_mod' _ _
 have hhc:h<c:=by
  rw[<-hh,Nat.div_lt_iff_lt_mul (by omega)]
  have h1:a*c<=9223372036854775807*c:=Nat.mul_le_mul_right _ ha;omega
 have hl2:l<18446744073709551616:=by rw[<-hl];exact Nat.mod_lt _ (by omega)
 have hd:=qL h l c hhc hl2 (by omega)
 rw[hhl] at hd;rw[hh,hl] at hm;obtain⟨q,hqe⟩:∃q,a*b/c=q:=⟨_,rfl⟩
 obtain⟨r,hre⟩:∃q,a*b%c=q:=⟨_,rfl⟩
 rw[hqe] at hd hq ⊢;rw[hre] at hd;have s1:=eT a (by omega)
 have s2:=eT b (by omega)
 have s3:=eT c (by omega)
 rw[show(a:Int).natAbs=a from rfl] at s1
 rw[show(b:Int).natAbs=b from rfl] at s2
 rw[show(c:Int).natAbs=c from rfl] at s3
 have r1:=aX a;have r2:=aX b;have r3:=aX c;rw[show aD a=true from decide_eq_true (by omega)] at r1
 rw[show aD b=true from decide_eq_true (by omega)] at r2
 rw[show aD c=true from decide_eq_true (by omega)] at r3
 have z1:¬c=0:=by omega
 have z2:¬c<=h:=by omega
 have z3:(q:Int)<=9223372036854775807:=by omega
 have z4:¬(9223372036854775807:Int)<q:=by omega
 have z5:IntKind.i64.wrap (q:Int)=q:=am (by omega) (by omega)
 have z6:¬(a:Int)<0:=by omega
 have z7:¬(b:Int)<0:=by omega
 have z8:¬(c:Int)<0:=by omega
 refine ah.enter tabOk Tryz.func80 rfl (by show 4<=86;decide) ?_
 simp only[Tryz.f80];have H:=And.intro z1 (And.intro z2 (And.intro z3 (And.intro z4 (And.intro z5 (And.intro z6 (And.intro z7 z8))))));refine zR ?_;refine WpC.seq ?_;refine WpC.block ?_;refine WpC.seq ?_;refine WpC.val 16 (.d (.bool (false))) ?_ ?_
 ·refine WpC.region ?_;refine zO 3 ?_;refine zS 19 (λg19=>?_) (λg19=>?_)
  ·try(exfalso;revert g19;simp;done)
   all_goals
    have g19':=zN g19;replace H:=And.intro g19 H;refine zO 4 ?_;refine WpO.nil ?_;refine⟨rfl,Gh.only 16 8 ?_ (by first|rfl|simp -implicitDefEqProofs[H]) (by rfl)⟩
    simp -implicitDefEqProofs[H,g19']
  ·try(exfalso;revert g19;simp;done)
   all_goals
    have g19':=zN g19;replace H:=And.intro g19 H;refine zO 4 ?_;refine WpO.nil ?_;refine⟨rfl,Gh.only 16 8 ?_ (by first|rfl|simp -implicitDefEqProofs[H]) (by rfl)⟩
    simp -implicitDefEqProofs[H,g19']
 refine zF ?_;refine WpC.seq ?_;refine WpC.val 23 (.d (.bool (false))) ?_ ?_
 ·refine WpC.region ?_;refine zO 1 ?_;refine zG a_ (r1) ?_;refine zO 2 ?_;refine zS 27 (λg27=>?_) (λg27=>?_)
  ·try(exfalso;revert g27;simp;done)
   all_goals
    have g27':=zN g27;replace H:=And.intro g27 H;refine zO 10 ?_;refine WpO.nil ?_;refine⟨rfl,Gh.only 23 15 ?_ (by first|rfl|simp -implicitDefEqProofs[H]) (by rfl)⟩
    simp -implicitDefEqProofs[H,g27']
  ·try(exfalso;revert g27;simp;done)
   all_goals
    have g27':=zN g27;replace H:=And.intro g27 H;refine zO 1 ?_;refine zG a_ (r2) ?_;refine zO 3 ?_;refine zS 32 (λg32=>?_) (λg32=>?_)
    ·try(exfalso;revert g32;simp;done)
     all_goals
      have g32':=zN g32;replace H:=And.intro g32 H;refine zO 5 ?_;refine WpO.nil ?_;refine⟨rfl,Gh.only 23 16 ?_ (by first|rfl|simp -implicitDefEqProofs[H]) (by rfl)⟩
      simp -implicitDefEqProofs[H,g27',g32']
    ·try(exfalso;revert g32;simp;done)
     all_goals
      have g32':=zN g32;replace H:=And.intro g32 H;refine zO 1 ?_;refine zG a_ (r3) ?_;refine zO 3 ?_;refine WpO.nil ?_;refine⟨rfl,Gh.only 23 16 ?_ (by first|rfl|simp -implicitDefEqProofs[H]) (by rfl)⟩
      simp -implicitDefEqProofs[H,g27',g32']
 refine zF ?_;refine zR ?_;refine zF ?_;refine WpC.skip ?_;refine WpC.seq ?_;refine WpC.region ?_;refine zO 1 ?_;refine zG dY (s1) ?_;refine zO 1 ?_;refine zG dY (s2) ?_;refine zG mK (hm) ?_;refine zO 5 ?_;refine WpO.nil ?_;refine WpC.seq ?_;refine WpC.region ?_;refine zO 1 ?_;refine zG dY (s3) ?_;refine zO 1 ?_;refine WpO.nil ?_;refine WpC.seq ?_;refine zR ?_;refine zF ?_;refine WpC.skip ?_;refine WpC.seq ?_;refine WpC.region ?_;refine zO 3 ?_;refine zG rf (hd) ?_;refine zO 5 ?_;refine WpO.nil ?_;refine WpC.seq ?_;refine WpC.seq ?_;refine WpC.val 68 (.d (.bool (false))) ?_ ?_
 ·refine WpC.region ?_;refine zO 3 ?_;refine zS 62 (λg62=>?_) (λg62=>?_)
  ·try(exfalso;revert g62;simp;done)
   all_goals
    have g62':=zN g62;replace H:=And.intro g62 H;refine zO 4 ?_;refine zG rc (vu q r c) ?_;refine zO 1 ?_;refine WpO.nil ?_;refine⟨rfl,Gh.only 68 10 ?_ (by first|rfl|simp -implicitDefEqProofs[H]) (by rfl)⟩
    simp -implicitDefEqProofs[H,g62']
  ·try(exfalso;revert g62;simp;done)
   all_goals
    have g62':=zN g62;replace H:=And.intro g62 H;refine zO 6 ?_;refine WpO.nil ?_;refine⟨rfl,Gh.only 68 10 ?_ (by first|rfl|simp -implicitDefEqProofs[H]) (by rfl)⟩
    simp -implicitDefEqProofs[H,g62']
 refine zF ?_;refine WpC.skip ?_;refine WpC.seq ?_;refine zR ?_;refine zF ?_;refine WpC.skip ?_;refine zR ?_;refine WpC.seq ?_;refine zR ?_;refine zF ?_;refine WpC.skip ?_;refine zR ?_;refine WpC.ret ?_;try simp only[aa,aj]
 refine zE ?_;simp -implicitDefEqProofs[H]
def fN (x y:Int):Int:=if x<y then -1 else if x=y then 0 else 1
theorem nT (x y:Nat):ah Tryz.prog 144 [.d (.int .u64 (x/18446744073709551616:Nat)),.d (.int .u64 (x%18446744073709551616:Nat)),.d (.int .u64 (y/18446744073709551616:Nat)),.d (.int .u64 (y%18446744073709551616:Nat))] (.d (dI (fN x y))):=by
 obtain⟨h1,e1⟩:∃q,x/18446744073709551616=q:=⟨_,rfl⟩
 obtain⟨l1,e2⟩:∃q,x%18446744073709551616=q:=⟨_,rfl⟩
 obtain⟨h2,e3⟩:∃q,y/18446744073709551616=q:=⟨_,rfl⟩
 obtain⟨l2,e4⟩:∃q,y%18446744073709551616=q:=⟨_,rfl⟩
 rw[e1,e2,e3,e4];refine ah.enter tabOk Tryz.func144 rfl (by show 4<=32;decide) ?_
 simp only[Tryz.f144];have H:=trivial;refine zR ?_;refine WpC.seq ?_;refine WpC.block ?_;refine WpC.seq ?_;refine WpC.val 9 (.d (.bool (decide (h2<h1\/(h1=h2/\l2<l1))))) ?_ ?_
 ·refine WpC.region ?_;refine zO 4 ?_;refine zS 13 (λg13=>?_) (λg13=>?_)
  ·try(exfalso;revert g13;simp;done)
   all_goals
    have g13':=zN g13;replace H:=And.intro g13 H;refine zO 10 ?_;refine WpO.nil ?_;refine⟨rfl,Gh.only 9 15 ?_ (by first|rfl|simp -implicitDefEqProofs[H]) (by rfl)⟩
    simp -implicitDefEqProofs[H,g13']<;>omega
  ·try(exfalso;revert g13;simp;done)
   all_goals
    have g13':=zN g13;replace H:=And.intro g13 H;refine zO 4 ?_;refine zS 17 (λg17=>?_) (λg17=>?_)
    ·try(exfalso;revert g17;simp;done)
     all_goals
      have g17':=zN g17;replace H:=And.intro g17 H;refine zO 6 ?_;refine WpO.nil ?_;refine⟨rfl,Gh.only 9 16 ?_ (by first|rfl|simp -implicitDefEqProofs[H]) (by rfl)⟩
      simp -implicitDefEqProofs[H,g13',g17']<;>omega
    ·try(exfalso;revert g17;simp;done)
     all_goals
      have g17':=zN g17;replace H:=And.intro g17 H;refine zO 6 ?_;refine WpO.nil ?_;refine⟨rfl,Gh.only 9 16 ?_ (by first|rfl|simp -implicitDefEqProofs[H]) (by rfl)⟩
      simp -implicitDefEqProofs[H,g13',g17']<;>omega
 refine zD (h2<h1\/(h1=h2/\l2<l1)) (λd9=>?_) (λd9=>?_)
 ·replace H:=And.intro d9 H;refine zR ?_;refine WpC.ret ?_;try simp only[aa,aj]
  refine zE ?_;rw[show fN x y=1 from by unfold fN;rw[if_neg (by omega),if_neg (by omega)]];simp
 replace H:=And.intro d9 H;refine WpC.seq ?_;refine WpC.val 23 (.d (.bool (decide ((h1:Int)=h2/\(l1:Int)=l2)))) ?_ ?_
 ·refine WpC.region ?_;refine zO 4 ?_;refine zS 27 (λg27=>?_) (λg27=>?_)
  ·try(exfalso;revert g27;simp;done)
   all_goals
    have g27':=zN g27;replace H:=And.intro g27 H;refine zO 5 ?_;refine WpO.nil ?_;refine⟨rfl,Gh.only 23 10 ?_ (by first|rfl|simp -implicitDefEqProofs[H]) (by rfl)⟩
    simp -implicitDefEqProofs[H,g27']<;>omega
  ·try(exfalso;revert g27;simp;done)
   all_goals
    have g27':=zN g27;replace H:=And.intro g27 H;refine zO 5 ?_;refine WpO.nil ?_;refine⟨rfl,Gh.only 23 10 ?_ (by first|rfl|simp -implicitDefEqProofs[H]) (by rfl)⟩
    simp -implicitDefEqProofs[H,g27']<;>omega
 refine zD ((h1:Int)=h2/\(l1:Int)=l2) (λd23=>?_) (λd23=>?_)
 ·replace H:=And.intro d23 H;refine zR ?_;refine WpC.ret ?_;try simp only[aa,aj]
  refine zE ?_;rw[show fN x y=0 from by unfold fN;rw[if_neg (by omega),if_pos (by omega)]];simp
 replace H:=And.intro d23 H;refine WpC.skip ?_;refine zR ?_;refine WpC.ret ?_;try simp only[aa,aj]
 refine zE ?_;rw[show fN x y= -1 from by unfold fN;rw[if_pos (by omega)]];simp
def inA (n:Int):Prop:= -9223372036854775807<=n/\n<=9223372036854775807
theorem l7 (a b:Int) (ha:inA a) (hb:inA b):ah Tryz.prog 143 [.d (dI a),.d (dI b)] (.tup [.d (.bool (decide (a*b<0))),.d (.int .u64 ((a*b).natAbs/18446744073709551616:Nat)),.d (.int .u64 ((a*b).natAbs%18446744073709551616:Nat))]):=by
 have s1:=eT a (by unfold inA at ha;omega)
 have s2:=eT b (by unfold inA at hb;omega)
 have hm:=mf a.natAbs b.natAbs (by unfold inA at ha;omega) (by unfold inA at hb;omega)
 rw[<-Int.natAbs_mul] at hm;have hneg:a*b<0↔(a<0/\0<b)\/(0<a/\b<0):=by
  have q1:a<0->b<0->0<a*b:=λh1 h2=>Int.mul_pos_of_neg_of_neg h1 h2
  have q2:a<0->0<b->a*b<0:=λh1 h2=>Int.mul_neg_of_neg_of_pos h1 h2
  have q3:0<a->b<0->a*b<0:=λh1 h2=>Int.mul_neg_of_pos_of_neg h1 h2
  have q4:0<a->0<b->0<a*b:=λh1 h2=>Int.mul_pos h1 h2
  have q5:a=0->a*b=0:=λh=>by rw[h,Int.zero_mul]
  have q6:b=0->a*b=0:=λh=>by rw[h,Int.mul_zero]
  generalize a*b=p at*;omega
 have hzero:a*b=0↔a=0\/b=0:=Int.mul_eq_zero;obtain⟨p,hp⟩:∃p,a*b=p:=⟨_,rfl⟩
 rw[hp] at hm hneg hzero ⊢;obtain⟨h,e1⟩:∃q,p.natAbs/18446744073709551616=q:=⟨_,rfl⟩
 obtain⟨l,e2⟩:∃q,p.natAbs%18446744073709551616=q:=⟨_,rfl⟩
 have hz:(0<h\/0<l)↔p≠0:=by omega
 rw[e1,e2] at hm ⊢;clear e1 e2;refine ah.enter tabOk Tryz.func143 rfl (by show 2<=32;decide) ?_
 simp only[Tryz.f143];have H:=trivial;refine zR ?_;refine WpC.seq ?_;refine WpC.region ?_;refine zO 1 ?_;refine zG dY (s1) ?_;refine zO 1 ?_;refine zG dY (s2) ?_;refine zG mK (hm) ?_;refine zO 5 ?_;refine WpO.nil ?_;refine WpC.seq ?_;refine WpC.region ?_;refine zO 6 ?_;refine zS 22 (λg22=>?_) (λg22=>?_)
 ·have g22':=zN g22;replace H:=And.intro g22 H;refine zO 3 ?_;refine zS 25 (λg25=>?_) (λg25=>?_)
  ·have g25':=zN g25;replace H:=And.intro g25 H;refine zO 9 ?_;refine WpO.nil ?_;refine WpC.ret ?_;try simp only[aa,aj]
   refine zE ?_;simp -implicitDefEqProofs only[fK,leR,FV.le];first|omega|(simp;omega)|simp
  have g25':=zN g25;replace H:=And.intro g25 H;refine zO 9 ?_;refine WpO.nil ?_;refine WpC.ret ?_;try simp only[aa,aj]
  refine zE ?_;simp -implicitDefEqProofs only[fK,leR,FV.le];first|omega|(simp;omega)|simp
 have g22':=zN g22;replace H:=And.intro g22 H;refine zO 12 ?_;refine WpO.nil ?_;refine WpC.ret ?_;try simp only[aa,aj]
 refine zE ?_;simp -implicitDefEqProofs only[fK,leR,FV.le];first|omega|(simp;omega)|simp
end Go.Proofs.YtlhmejigmokbhaaGreatDoor.Pay
