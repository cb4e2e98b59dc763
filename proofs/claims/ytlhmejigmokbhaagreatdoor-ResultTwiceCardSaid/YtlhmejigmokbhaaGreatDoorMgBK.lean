/- The texts StB, StC, StE, ShC, ShE, one behind the other. No statement of the seed is proved here. -/
import Derived.Test.YtlhmejigmokbhaaGreatDoorMgO
import Derived.Test.YtlhmejigmokbhaaGreatDoorMgBE
import Derived.Shelf.Strings.Builder1
namespace Go.Proofs.YtlhmejigmokbhaaGreatDoor.Pay
open Go Go.RowKit Go.Shelf Go.Proofs
set_option linter.unusedVariables false
set_option linter.unusedSimpArgs false
@[reducible] def iA:TypeId:=235
def u8L (l:List UInt8):List D:=l.map λb=>D.int .u8 b.toNat
@[simp] theorem om (l:List UInt8):(u8L l).length=l.length:=by simp[u8L]
@[simp] theorem Hs (l m:List UInt8):u8L l++u8L m=u8L (l++m):=by simp[u8L]
@[simp] theorem Hr (l:List UInt8):l.map (λb=>D.int .u8 (b.toNat:Int))=u8L l:=rfl
def iE:Ren:=⟨λ|240=>184|276=>197|n=>n,
 λ|0=>0|4=>4|9=>9|20=>20|37=>233|70=>232|72=>235|164=>273|n=>n,λ|n=>n⟩
theorem nS:Lays.n240 Tryz.prog iE where
 mixed:=by kernel_rfl
 f240:=Tryz.func184.trans (congrArg some (by kernel_rfl))
 f276:=by kernel_rfl
 t0:=Tryz.underlying0
 a0:=Tryz.isAgg0
 z0:=Tryz.sizeOf0
 v0:=Tryz.zeroValue0
 t4:=Tryz.underlying4
 a4:=Tryz.isAgg4
 z4:=Tryz.sizeOf4
 v4:=Tryz.zeroValue4
 t9:=Tryz.underlying9
 a9:=Tryz.isAgg9
 z9:=Tryz.sizeOf9
 v9:=Tryz.zeroValue9
 t20:=Tryz.underlying20
 a20:=Tryz.isAgg20
 z20:=Tryz.sizeOf20
 v20:=Tryz.zeroValue20
 t70:=Tryz.underlying232
 a70:=Tryz.isAgg232
 z70:=Tryz.sizeOf232
 v70:=Tryz.zeroValue232
 t72:=Tryz.underlying235
 a72:=Tryz.isAgg235
 z72:=Tryz.sizeOf235
 v72:=Tryz.zeroValue235
 t164:=Tryz.underlying273
 a164:=Tryz.isAgg273
 z164:=Tryz.sizeOf273
 v164:=Tryz.zeroValue273
theorem xb:Builder.X72 Tryz.prog iE where
 sizeBuilder:=by kernel_rfl
 liesBuilder:=by kernel_rfl
theorem OR.sr {w:World} {I:Nat->Prop} {L:List Lay} {S:List Ob} (h:OR w I L S) (p:Nat):SR w I L ⟨[],S,0,p⟩ {tmps:= #[],defers:=[]}:=
 ⟨λt x hx=>by simp[get] at hx,rfl,h.len,h.obs,h.nodup,h.sep,h.imm,rfl⟩
theorem pc {x p:FV} {S:List Ob} (hS:S[0]?=some (.cells iA [p,x])) (hp:p= .d .nilp\/p= .ref 0 0):
 WpF Tryz.prog 184 [.ref 0 0] S λr S'=>r= .tup []/\S'=S.set 0 (.cells iA [.ref 0 0,x]):=λw I L vs ha hO=>by
 simp only[ap,ai] at ha;obtain⟨_,_,rfl,⟨b,hb,rfl⟩,rfl⟩:=ha;obtain⟨b',vs',he,hg,ho,hr⟩:=hO.obs 0 _ _ hS hb;cases he;simp only[ap] at hr;obtain⟨vp,_,rfl,h1,vx,_,rfl,h2,rfl⟩:=hr;have hs:=hO.sr S.length;have h0:0<S.length:=(List.getElem?_eq_some_iff.1 hS).1;rcases hp with rfl|rfl
 ·simp only[ai,ar] at h1;subst h1;refine(Any.Builder_copyCheck_fresh nS xb b w ?_ ?_ ?_).mono ?_
  ·rw[Lib.cell_of_heap hg];rfl
  ·simp[World.shape?,hg];try rfl
  ·exact Lib.frozen_of_heap hg 0
  ·rintro e w' ⟨rfl,rfl⟩;have hk:∀q,q<w.heap.size->q∉own (.cells iA [.d .nilp,x]) (.c b)->(w.setCell ⟨b,0,none⟩ (.pointer (some ⟨b,0,none⟩))).heap[q]?=w.heap[q]?:=λq _ hq=>Below.heap_setCell w _ _ q (by simpa[own] using hq)
   have hsz:(w.setCell ⟨b,0,none⟩ (.pointer (some ⟨b,0,none⟩))).heap.size=w.heap.size:=by simp[World.setCell]
   have hII:∀q,I q->(w.setCell ⟨b,0,none⟩ (.pointer (some ⟨b,0,none⟩))).heap[q]?=w.heap[q]?:=λq hq=>hk q (hO.imm q hq) λh=>(hO.sep q (aw hS hb q h)).1 hq
   have hor:b7 (w.setCell ⟨b,0,none⟩ (.pointer (some ⟨b,0,none⟩))) I L (.cells iA [.ref 0 0,x]) (.c b):=by
    refine⟨b,[.pointer (some ⟨b,0,none⟩),vx],rfl,?_,λv hv=>?_,?_⟩
    ·simp[World.setCell,Array.getElem?_modify,hg]
    ·simp at hv;rcases hv with rfl|rfl
     ·rfl
     ·exact ho _ (by simp)
    ·simp only[ap,ai];exact⟨_,_,rfl,⟨b,hb,rfl⟩,vx,_,rfl,ai.mono hII (λ_ h=>h) (λ_ _ h=>h) _ _ h2,rfl⟩
   have r1:=hs.upd hS hb (o':= .cells iA [.ref 0 0,x]) rfl hk hsz hor;have r2:=bq.upd (w:=w) (w':=w.setCell ⟨b,0,none⟩ (.pointer (some ⟨b,0,none⟩))) (I:=I) (s:=⟨[],S,0,S.length⟩) hS hb (o':= .cells iA [.ref 0 0,x]) rfl hk hsz rfl rfl rfl;exact⟨.tup [],_,_,I,L,rfl,⟨rfl,rfl⟩,by simp[ai,ap],r1.or,r2.evo,by simp,λi _=>rfl⟩
 ·simp only[ai] at h1;obtain⟨b2,hb2,rfl⟩:=h1;rw[hb] at hb2;cases hb2;refine(Any.Builder_copyCheck_used nS xb b w (by rw[Lib.cell_of_heap hg];rfl)).mono ?_
  rintro e w' ⟨rfl,rfl⟩;refine⟨.tup [],_,S,I,L,rfl,⟨rfl,?_⟩,by simp[ai,ap],hO,Evo.refl _ _ _,Nat.le_refl _,λi _=>rfl⟩
  apply List.ext_getElem?;intro i;rw[List.getElem?_set];split
  ·rename_i h;subst h;rw[hS];try simp[h0]
  ·rfl
def kW:Go.Shelf.Ren:=⟨λ|169=>152|n=>n,λ|70=>232|9=>9|0=>0|72=>235|37=>233|127=>263|3=>3|5=>5|n=>n,λ|n=>n⟩
theorem kO:Go.Proofs.Lays.n169 Tryz.prog kW where
 mixed:=by kernel_rfl
 f169:=Tryz.func152.trans (congrArg some (by kernel_rfl))
 t0:=Tryz.underlying0
 a0:=Tryz.isAgg0
 z0:=Tryz.sizeOf0
 v0:=Tryz.zeroValue0
 t3:=Tryz.underlying3
 a3:=Tryz.isAgg3
 z3:=Tryz.sizeOf3
 v3:=Tryz.zeroValue3
 t9:=Tryz.underlying9
 a9:=Tryz.isAgg9
 z9:=Tryz.sizeOf9
 v9:=Tryz.zeroValue9
 t37:=Tryz.underlying233
 a37:=Tryz.isAgg233
 z37:=Tryz.sizeOf233
 v37:=Tryz.zeroValue233
 t70:=Tryz.underlying232
 a70:=Tryz.isAgg232
 z70:=Tryz.sizeOf232
 v70:=Tryz.zeroValue232
 t72:=Tryz.underlying235
 a72:=Tryz.isAgg235
 z72:=Tryz.sizeOf235
 v72:=Tryz.zeroValue235
 t127:=Tryz.underlying263
 a127:=Tryz.isAgg263
 z127:=Tryz.sizeOf263
 v127:=Tryz.zeroValue263
set_option maxHeartbeats 1000000 in
set_option maxRecDepth 100000 in
theorem ri {P:Program} {ρ:Ren} (L:Lays.n169 P ρ) (hc:P.cellsOf (ρ.t 5)=1) (b g cap:Nat) (p:Value) (cur:Array Value) (l:List UInt8) (w:World)
 (hb:w.heap[b]?=some (.cells #[p,.slice (some ⟨g,0,none⟩) l.length cap] (ρ.t 72) (0,0))) (hg:w.heap[g]?=some (.cells cur (ρ.t 5) (0,0))) (h0:l≠ []) (h1:l.length<=cap) (h2:cap<=maxLen) (h3:cur.size=cap)
 (h4:∀(j:Nat) x,l[j]?=some x->w.cell? ((⟨g,0,none⟩:Addr).add j)=some (.int .u8 x.toNat)):
 Calls P (ρ.f 169) #[.pointer (some ⟨b,0,none⟩)] w λe w'=>e= .returned (.string ⟨l.toArray⟩)/\w'=w.drew.freeze ⟨g,0,none⟩ l.length:=by
 have hl0:l.length≠0:=by simpa using h0
 have c1:w.drew.cell? ⟨b,1,none⟩=some (.slice (some ⟨g,0,none⟩) l.length cap):=by
  have:w.drew.heap[b]?=some (.cells #[p,.slice (some ⟨g,0,none⟩) l.length cap] (ρ.t 72) (0,0)):=hb;rw[Lib.cell_of_heap this];rfl
 have hSD:(Builtin.unsafeSliceData_ #[(ρ.t 37)] (ρ.t 127) #[.slice (some ⟨g,0,none⟩) l.length cap]).run P w.drew= .ok (.pointer (some ⟨g,0,none⟩)) w.drew:=
  Lib.run_unsafeSliceData_row _ _ _ _ _ _ (by omega)
 have hUS:(Builtin.unsafeString_ #[(ρ.t 127),(ρ.t 3)] (ρ.t 9) #[.pointer (some ⟨g,0,none⟩),.int .i64 l.length]).run P w.drew= .ok (.string ⟨l.toArray⟩) (w.drew.freeze ⟨g,0,none⟩ l.length):=by
  refine Lib.run_unsafeString_row w.drew (ρ.t 127) (ρ.t 3) (ρ.t 9) (ρ.t 5) L.t127 hc g cur.size (by have hg':w.drew.heap[g]?=some (.cells cur (ρ.t 5) (0,0)):=hg;simp[World.shape?,hg']) l h0 (by omega) (by unfold maxLen at h2;omega) ?_
  intro j x hx;exact h4 j x hx
 clear h1 h2 h3 h4 hl0;have mixed:=L.mixed;have t72:=L.t72;have a72:=L.a72;have z72:=L.z72;have v72:=L.v72;have u72:=run_underlying L.t72;have t70:=L.t70;have a70:=L.a70;have z70:=L.z70;have v70:=L.v70;have u70:=run_underlying L.t70;have t37:=L.t37;have a37:=L.a37;have z37:=L.z37;have v37:=L.v37;have u37:=run_underlying L.t37;have t127:=L.t127;have a127:=L.a127;have z127:=L.z127;have v127:=L.v127;have u127:=run_underlying L.t127;have t3:=L.t3;have a3:=L.a3;have z3:=L.z3;have v3:=L.v3;have u3:=run_underlying L.t3;have t9:=L.t9;have a9:=L.a9;have z9:=L.z9;have v9:=L.v9;have u9:=run_underlying L.t9
 go_enter L.f169,Body.n169_ntmps ρ
 go_wp2
 go_region_o
 all_goals(go_wp2;go_ret;exact⟨rfl,rfl⟩)
theorem nw {p:FV} (l:List UInt8) (h:l≠ []):
 WpF Tryz.prog 152 [.ref 0 0] [.cells iA [p,.sl 1 l.length],.arr 5 1 (u8L l)] λr S'=>r= .d (.str l)/\S'=[.gone,.gone]:=λw I L vs ha hO=>by
 simp only[ap,ai] at ha;obtain⟨_,_,rfl,⟨b,hb,rfl⟩,rfl⟩:=ha;obtain⟨b',vs',he,hg,ho,hr⟩:=hO.obs 0 _ _ rfl hb;cases he;simp only[ap,ai] at hr;obtain⟨vp,_,rfl,h1,vx,_,rfl,⟨lr,hd,cap,hL1,hh,rfl⟩,rfl⟩:=hr;have hlen:=hO.len;simp only[List.length_cons,List.length_nil] at hlen;obtain⟨g,hlr,cp,cur,hrow,hcp,hcm,hcs,htk⟩:∃g,lr= .a (some g) cap/\∃cp cur,w.heap[g]?=some (.cells cur 5 (0,0))/\l.length<=cap/\cap<=maxLen/\cur.size=cap/\(∀(j:Nat) x,l[j]?=some x->w.cell? ((⟨g,0,none⟩:Addr).add j)=some (.int .u8 x.toNat)):=by
  have hl0:l.length≠0:=by simpa using h
  rcases hO.obs 1 _ _ rfl hL1 with⟨base,c,us,rfl,hown,hr⟩|⟨hd',rfl,he⟩
  ·simp only[Lay.hdr,Option.some.injEq,Prod.mk.injEq] at hh;obtain⟨rfl,rfl⟩:=hh;have hu:us=l.map λb=>Value.int .u8 b.toNat:=by
    have:∀(l:List UInt8) (us:List Value),ax w I 1 (u8L l) us->us=l.map λb=>Value.int .u8 b.toNat:=by
     intro l;induction l with
     |nil=>intro us h;simpa[u8L,ax] using h
     |cons x l ih=>
      intro us h;simp only[u8L,List.map_cons,ax,ar] at h;obtain⟨v,r,rfl,_,rfl,h⟩:=h;rw[ih r h];simp[Value.cells]
    exact this l us hr
   rcases hown.2 with⟨_,h0⟩|⟨g,cp,cur,he,_,hg,hle,hm,hcs,htk⟩
   ·rw[om] at h0;omega
   ·cases base with
    |none=>simp[Lay.head] at he
    |some b0=>
     simp only[Lay.head,Option.map_some,Value.slice.injEq,Option.some.injEq,Addr.mk.injEq,and_true,true_and] at he;obtain⟨rfl,_,rfl⟩:=he;rw[om] at hle;refine⟨b0,rfl,c,cur,hg,hle,hm,by simpa using hcs,λj x hx=>?_⟩
     have:=hown.cells (g:=b0) rfl j (.int .u8 x.toNat) (by rw[hu];simp[hx])
     exact this
  ·exact absurd (List.eq_nil_of_length_eq_zero (by rw[<-om l,he];rfl)) h
 subst hlr;simp only[Lay.hdr,Lay.head,Option.map_some,Option.some.injEq,Prod.mk.injEq,and_true] at hh;subst hh;refine(ri kO (by kernel_rfl) b g cap vp cur l w hg hrow h hcp hcm hcs htk).mono ?_
 rintro e w' ⟨rfl,rfl⟩;have hfz:∀q,q≠g->(w.drew.freeze ⟨g,0,none⟩ l.length).heap[q]?=w.heap[q]?:=λq hq=>by
  unfold World.freeze;split
  ·rfl
  ·simp only[Array.getElem?_modify];rw[if_neg (λe=>hq e.symm)]
   rfl
 have hsz:(w.drew.freeze ⟨g,0,none⟩ l.length).heap.size=w.heap.size:=by
  unfold World.freeze;split<;>simp
 have hmem:g∈aB [.cells iA [p,.sl 1 l.length],.arr 5 1 (u8L l)] L:=aw (i:=1) rfl hL1 g (by simp[own])
 have hII:∀q,I q->(w.drew.freeze ⟨g,0,none⟩ l.length).heap[q]?=w.heap[q]?:=λq hq=>hfz q λe=>(hO.sep g hmem).1 (e▸hq)
 have how:aB [.gone,.gone] L=[]:=io 2 L;refine⟨.d (.str l),_,[.gone,.gone],I,L,rfl,⟨rfl,rfl⟩,by simp only[ai,ar],⟨by simpa using hlen,λi o l' h1 h2=>?_,by rw[how];exact List.nodup_nil,λq hq=>by rw[how] at hq;simp at hq,hO.imm.mono hII (by omega)⟩,
  ⟨by unfold World.freeze;split<;>rfl,by unfold World.freeze;split<;>rfl,by unfold World.freeze;split<;>rfl,by omega,λq _ hn=>hfz q λe=>hn (e▸hmem),λ_ h=>h,λ_ h=> .inl h,λq hq=>by rw[how] at hq;simp at hq⟩,by simp,λi _=>rfl⟩
 have:o= .gone:=by
  match i,h1 with
  |0,h1=>simpa using h1.symm
  |1,h1=>simpa using h1.symm
 subst this;trivial
end Go.Proofs.YtlhmejigmokbhaaGreatDoor.Pay
namespace Go.Proofs.YtlhmejigmokbhaaGreatDoor.Pay
open Go Go.RowKit
set_option linter.unusedVariables false
set_option linter.unusedSimpArgs false
theorem dh {p:FV} (hp:p= .d .nilp\/p= .ref 0 0) (l s:List UInt8) (h:l.length+s.length<=8589934592):
 WpF Tryz.prog 150 [.ref 0 0,.d (.str s)] [.cells iA [p,.sl 1 l.length],.arr 5 1 (u8L l)]
  λr S=>r= .tup [.d (dI s.length),.d .nili]/\S=[.cells iA [.ref 0 0,.sl 2 (l.length+s.length)],.gone,.arr 5 1 (u8L (l++s))]:=by
 have hc:=pc (S:=[.cells iA [p,.sl 1 l.length],.arr 5 1 (u8L l)]) (x:= .sl 1 l.length) rfl hp;have hr:ren (σ0 2 [0,1]) p=p:=by rcases hp with rfl|rfl<;>simp
 have hu:u8L l++u8L s=u8L (l++s):=by simp
 have hu2:(u8L l).length=l.length:=by simp
 have hu3:(u8L s).length=s.length:=by simp
 refine WpF.enter tabOk Tryz.func150 rfl (by show 2<=19;decide) ?_
 simp only[Tryz.f150];have H:=And.intro hr (And.intro hu (And.intro hu2 (And.intro hu3 h)));refine zR ?_;refine WpC.seq ?_;refine WpC.region ?_;refine zO 1 ?_;refine zP [0,1] x_ (hc) ?_;refine WpO.nil ?_;iterate 2 refine zR ?_
 refine WpC.ret ?_;refine⟨.inr rfl,_,rfl,?_,by simp⟩
 simp[hu,fK]
end Go.Proofs.YtlhmejigmokbhaaGreatDoor.Pay
namespace Go.Proofs.YtlhmejigmokbhaaGreatDoor.Pay
open Go Go.RowKit Go.Shelf Go.Proofs
set_option linter.unusedVariables false
set_option linter.unusedSimpArgs false
set_option maxHeartbeats 1000000 in
set_option maxRecDepth 100000 in
theorem rj {P:Program} {ρ:Ren} (L:Lays.n169 P ρ) (b:Nat) (p:Value) (w:World)
 (hb:w.heap[b]?=some (.cells #[p,.slice none 0 0] (ρ.t 72) (0,0))):
 Calls P (ρ.f 169) #[.pointer (some ⟨b,0,none⟩)] w λe w'=>e= .returned (.string .empty)/\w'=w.drew:=by
 have c1:w.drew.cell? ⟨b,1,none⟩=some (.slice none 0 0):=by
  have:w.drew.heap[b]?=some (.cells #[p,.slice none 0 0] (ρ.t 72) (0,0)):=hb;rw[Lib.cell_of_heap this];rfl
 have hSD:(Builtin.unsafeSliceData_ #[(ρ.t 37)] (ρ.t 127) #[.slice none 0 0]).run P w.drew= .ok (.pointer none) w.drew:=rfl;have hUS:(Builtin.unsafeString_ #[(ρ.t 127),(ρ.t 3)] (ρ.t 9) #[.pointer none,.int .i64 0]).run P w.drew= .ok (.string .empty) w.drew:=Lib.run_unsafeString_none _ _ _ _ _;have mixed:=L.mixed;have t72:=L.t72;have a72:=L.a72;have z72:=L.z72;have v72:=L.v72;have u72:=run_underlying L.t72;have t70:=L.t70;have a70:=L.a70;have z70:=L.z70;have v70:=L.v70;have u70:=run_underlying L.t70;have t37:=L.t37;have a37:=L.a37;have z37:=L.z37;have v37:=L.v37;have u37:=run_underlying L.t37;have t127:=L.t127;have a127:=L.a127;have z127:=L.z127;have v127:=L.v127;have u127:=run_underlying L.t127;have t3:=L.t3;have a3:=L.a3;have z3:=L.z3;have v3:=L.v3;have u3:=run_underlying L.t3;have t9:=L.t9;have a9:=L.a9;have z9:=L.z9;have v9:=L.v9;have u9:=run_underlying L.t9
 go_enter L.f169,Body.n169_ntmps ρ
 go_wp2
 go_region_o
 all_goals(go_wp2;go_ret;exact⟨rfl,rfl⟩)
theorem lV {p:FV}:
 WpF Tryz.prog 152 [.ref 0 0] [.cells iA [p,.d .nil]] λr S'=>r= .d (.str [])/\S'=[.gone]:=λw I L vs ha hO=>by
 simp only[ap,ai] at ha;obtain⟨_,_,rfl,⟨b,hb,rfl⟩,rfl⟩:=ha;obtain⟨b',vs',he,hg,ho,hr⟩:=hO.obs 0 _ _ rfl hb;cases he;simp only[ap,ai,ar] at hr;obtain⟨vp,_,rfl,h1,vx,_,rfl,rfl,rfl⟩:=hr;have hlen:=hO.len;simp only[List.length_cons,List.length_nil] at hlen;refine(rj kO b vp w hg).mono ?_;rintro e w' ⟨rfl,rfl⟩;have how:aB [.gone] L=[]:=io 1 L;refine⟨.d (.str []),_,[.gone],I,L,rfl,⟨rfl,rfl⟩,by simp only[ai,ar];rfl,⟨by simpa using hlen,λi o l' h1 h2=>?_,by rw[how];exact List.nodup_nil,λq hq=>by rw[how] at hq;simp at hq,hO.imm.mono (λ_ _=>rfl) (Nat.le_refl _)⟩,
  ⟨rfl,rfl,rfl,Nat.le_refl _,λq _ hn=>rfl,λ_ h=>h,λ_ h=> .inl h,λq hq=>by rw[how] at hq;simp at hq⟩,by simp,λi _=>rfl⟩
 have:o= .gone:=by
  match i,h1 with
  |0,h1=>simpa using h1.symm
 subst this;trivial
end Go.Proofs.YtlhmejigmokbhaaGreatDoor.Pay
namespace Go.Proofs.YtlhmejigmokbhaaGreatDoor.Pay
open Go Go.RowKit
set_option linter.unusedVariables false
set_option linter.unusedSimpArgs false
def rW (X:List Ex) (it:It):List It:=
 if bT (X.getD it.i.toNat default).op<it.least then⟨[40],0,0⟩::(dD (X.getD it.i.toNat default)++[⟨[41],0,0⟩]) else dD (X.getD it.i.toNat default)
def wrL (X:List Ex):Nat->List It->Int->List UInt8->List UInt8
 |0,_,_,acc=>acc
 |_+1,[],_,acc=>acc
 |f+1,it::st,left,acc=>
  if left<0 then acc
  else if it.s=[] then wrL X f (rW X it++st) (left-1) acc
  else wrL X f st left (acc++it.s)
def gx (X:List Ex) (i:Int):List UInt8:=wrL X ((X.length+1)*9+2) [⟨[],i,0⟩] X.length []
def okI (X:List Ex) (it:It):Prop:=it.s.length<=64/\(it.s=[]->0<=it.i/\it.i<X.length)
theorem uM (x:Ex) (h0: -9223372036854775808<=x.val) (h1:x.val<=9223372036854775807) (hn:x.name.length<=12):(gV x).length<=64:=by
 unfold gV;split
 ·have:=gW h0 h1;omega
 ·split
  ·split
   ·rename_i h;have:=lL (n:=x.val) (by simpa[aD] using h) h1;omega
   ·simp
  ·split
   ·split
    ·rename_i h;have hb:0<=x.val/\x.val<=10000:=by simpa[cG] using h
     have:=lL (n:=x.val) (by omega) h1
     simp only[vz,List.length_append,List.length_cons,List.length_nil];omega
    ·simp
   ·split
    ·omega
    ·simp
theorem kK {X:List Ex} {j:Nat} {x:Ex} (hx:X[j]?=some x) (hs:gG X) (h0: -9223372036854775808<=x.val) (h1:x.val<=9223372036854775807):1<=(dD x).length/\(dD x).length<=6/\∀it∈dD x,okI X it:=by
 obtain⟨a,b,c,o,n⟩:=hs j x hx;have hj:j<X.length:=(List.getElem?_eq_some_iff.1 hx).1;have hl:=uM x h0 h1 n;unfold dD okI;split
 ·rename_i h;simp only[bne_iff_ne,ne_eq] at h;simp[hl,h]
 ·split
  ·simp;omega
  ·split
   ·simp;omega
   ·split
    ·simp;omega
    ·simp;omega
theorem rV {X:List Ex} {it:It} (hs:gG X) (hv:∀x∈X,-9223372036854775808<=x.val/\x.val<=9223372036854775807) (hi:0<=it.i/\it.i<X.length):(rW X it).length<=8/\∀z∈rW X it,okI X z:=by
 obtain⟨j,hj⟩:∃j:Nat,it.i=j:=⟨it.i.toNat,by omega⟩
 have hjl:j<X.length:=by omega
 obtain⟨x,hx⟩:∃x,X[j]=x:=⟨_,rfl⟩
 have hx2:X[j]?=some x:=by rw[List.getElem?_eq_getElem hjl,hx]
 have hvx:=hv x (hx▸List.getElem_mem hjl);obtain⟨h1,h2,h3⟩:=kK hx2 hs hvx.1 hvx.2;have hgd:X.getD it.i.toNat default=x:=by rw[hj,Int.toNat_natCast,List.getD_eq_getElem?_getD,hx2];rfl
 unfold rW;rw[hgd];split
 ·refine⟨by simp;omega,λz hz=>?_⟩
  simp only[List.mem_cons,List.mem_append,List.not_mem_nil,or_false] at hz;rcases hz with rfl|hz|rfl
  ·simp[okI]
  ·exact h3 z hz
  ·simp[okI]
 ·exact⟨by omega,h3⟩
theorem yM {X:List Ex} (hs:gG X) (hv:∀x∈X,-9223372036854775808<=x.val/\x.val<=9223372036854775807):∀(f:Nat) (st:List It) (left:Int) (acc:List UInt8),(∀z∈st,okI X z)->(wrL X f st left acc).length<=acc.length+64*((left+1).toNat*9+st.length):=by
 intro f;induction f with
 |zero=>intro st left acc _;simp only[wrL];omega
 |succ f ih=>
  intro st left acc hst;cases st with
  |nil=>simp only[wrL];omega
  |cons it st=>
   rw[wrL];have hi:=hst it (List.mem_cons_self ..);have ht:∀z∈st,okI X z:=λz hz=>hst z (List.mem_cons_of_mem _ hz)
   by_cases hl:left<0
   ·rw[if_pos hl];omega
   ·rw[if_neg hl];by_cases he:it.s=[]
    ·rw[if_pos he];obtain⟨e1,e2⟩:=rV hs hv (hi.2 he);have:=ih (rW X it++st) (left-1) acc λz hz=>by
      rcases List.mem_append.1 hz with h|h
      ·exact e2 z h
      ·exact ht z h
     rw[List.length_append] at this;rw[List.length_cons];omega
    ·rw[if_neg he];have:=ih st left (acc++it.s) ht;have h64:=hi.1;rw[List.length_append] at this;rw[List.length_cons];omega
theorem ru {X:List Ex} (hs:gG X) (hv:∀x∈X,-9223372036854775808<=x.val/\x.val<=9223372036854775807) {i:Int} (h0:0<=i) (h1:i<X.length):(gx X i).length<=64*((X.length+1)*9+1):=by
 have:=yM hs hv ((X.length+1)*9+2) [⟨[],i,0⟩] X.length [] λz hz=>by
  rw[List.mem_singleton.1 hz];simp[okI];omega
 unfold gx;simp only[List.length_nil,List.length_cons] at this;omega
theorem sf {X:List Ex} {row L':List It} {k f B:Nat} {left:Int} {acc Z:List UInt8} (hk:k<=row.length) (hL':∀z∈L',okI X z) (h8:L'.length<=8) (i4k:∀z∈row.take k,okI X z) (hl:0<=left) (hl2:left<=X.length)
 (i6:acc.length+64*((left+1).toNat*9+(k+1))<=B) (hf:(left+1).toNat*9+(k+1)<f+1) (hpr:Z=wrL X f (L'++(row.take k).reverse) (left-1) acc):
 k+L'.length<=(row.take k++L'.reverse).length/\(∀z∈(row.take k++L'.reverse).take (k+L'.length),okI X z)/\(-1<=left-1/\left-1<=X.length)/\acc.length+64*((left-1+1).toNat*9+(k+L'.length))<=B/\
  (∃f,(left-1+1).toNat*9+(k+L'.length)<f/\Z=wrL X f ((row.take k++L'.reverse).take (k+L'.length)).reverse (left-1) acc)/\(left-1+1).toNat*9+(k+L'.length)<(left+1).toNat*9+(k+1):=by
 have hlen:(row.take k++L'.reverse).length=k+L'.length:=by rw[List.length_append,List.length_take,List.length_reverse];omega
 have ht:(row.take k++L'.reverse).take (k+L'.length)=row.take k++L'.reverse:=List.take_of_length_le (by omega)
 rw[ht];refine⟨by omega,λz hz=>?_,by omega,by omega,⟨f,by omega,by rw[hpr];simp⟩,by omega⟩
 rcases List.mem_append.1 hz with h|h
 ·exact i4k z h
 ·exact hL' z (List.mem_reverse.1 h)
structure Wr where
 fl:Bool
 row:List It
 n:Nat
 left:Int
 acc:List UInt8
set_option maxHeartbeats 4000000 in
theorem vj (R:List Ru) (X:List Ex) (i:Int) (hX:X.length<=10000) (hs:gG X) (hv:∀x∈X,-9223372036854775808<=x.val/\x.val<=9223372036854775807) (hi0:0<=i) (hi1:i<X.length):
 ah Tryz.prog 190 [.d (.agg [aL R,aM X]),.d (dI i)] (.d (.str (gx X i))):=by
 obtain⟨Z,hZ⟩:∃Z,gx X i=Z:=⟨_,rfl⟩
 have hZ0:Z=wrL X ((X.length+1)*9+2) [⟨[],i,0⟩] X.length []:=hZ.symm;rw[hZ];refine ah.enter tabOk Tryz.func190 rfl (by show 2<=70;decide) ?_
 simp only[Tryz.f190];have H:=trivial;iterate 3 refine zR ?_
 refine WpC.seq ?_;refine zR ?_;refine WpC.block ?_;refine WpC.loopM [2,5] [6,7] (λx=>(x.left+1).toNat*9+x.n) (⟨false,[⟨[],i,0⟩],1,X.length,[]⟩:Wr) (λx=>[(6,.sl 2 x.n),(7,.d (dI x.left))]) (λx=>(if x.fl=true then [.cells 41 [.d (aL R),.d (aM X)],.cells iA [.ref 1 0,.sl 3 x.acc.length],.arr kR 3 (x.row.map It.enc),.arr 5 1 (u8L x.acc)] else [.cells 41 [.d (aL R),.d (aM X)],.cells iA [.d .nilp,.d .nil],.arr kR 3 (x.row.map It.enc)])) (λx=>(x.fl=false->x.acc=[])/\(x.fl=true->x.acc≠ [])/\x.n<=x.row.length/\(∀it∈x.row.take x.n,okI X it)/\(-1<=x.left/\x.left<=X.length)/\x.acc.length+64*((x.left+1).toNat*9+x.n)<=64*((X.length+1)*9+1)/\∃f,(x.left+1).toNat*9+x.n<f/\Z=wrL X f (x.row.take x.n).reverse x.left x.acc) (by simp -implicitDefEqProofs[H]<;>rfl) (Gh.cut' [6,7,2,5] 3 (by simp -implicitDefEqProofs[H]) (by simp -implicitDefEqProofs[H]) rfl (by simp) (by simp) (by simp)) (⟨λ_=>rfl,λh=>by simp at h,by simp,by simp[okI];omega,by simp only;omega,by simp only[List.length_nil];omega,(X.length+1)*9+2,by simp only;omega,by simpa using hZ0⟩) ?_
 rintro x hi;simp only[List.cons_append,List.nil_append];obtain⟨fl,row,n,left,acc⟩:=x;obtain⟨i1,i2,i3,i4,i5,i6,f,hf,hpr⟩:=hi;simp only at i1 i2 i3 i4 i5 i6 hf hpr ⊢;obtain⟨b,hb⟩:∃b,decide (0<n/\0<=left)=b:=⟨_,rfl⟩
 have hb1:0<n->decide (0<=left)=b:=λh=>by rw[<-hb];simp[h]
 have hb2:¬0<n->b=false:=λh=>by rw[<-hb];simp[h]
 have hb3:b=false->Z=acc:=λh=>by
  rw[h] at hb;cases f with
  |zero=>omega
  |succ f=>
   cases n with
   |zero=>rw[hpr];simp[wrL]
   |succ k=>
    have hl:left<0:=by simp at hb;omega
    have hk:k<row.length:=by omega
    have ht:(row.take (k+1)).reverse=row[k]::(row.take k).reverse:=by rw[List.take_add_one,List.getElem?_eq_getElem hk];simp
    rw[hpr,ht];simp[wrL,hl]
 have hws:=dh (p:= .ref 0 0) (.inr rfl) acc;have hws0:=λs h=>dh (p:= .d .nilp) (.inl rfl) [] s h
 have hs1:=λh=>nw (p:= .ref 0 0) acc h
 have hs0:=lV (p:= .d .nilp);cases fl;all_goals replace H:=And.intro hb1 (And.intro hb2 H)
 all_goals
  refine WpC.seq ?_;refine WpC.seq ?_;refine WpC.val 23 (.d (.bool (b))) ?_ ?_
  ·refine WpC.region ?_;refine zO 4 ?_;refine zS 20 (λg20=>?_) (λg20=>?_)
   ·have g20':=zN g20;replace H:=And.intro g20 H;refine zO 3 ?_;refine WpO.nil ?_;refine⟨rfl,Gh.only 23 8 ?_ (by first|rfl|simp -implicitDefEqProofs[H]) (by rfl)⟩
    simp -implicitDefEqProofs[hb1,hb2,g20,g20']
   have g20':=zN g20;replace H:=And.intro g20 H;refine zO 3 ?_;refine WpO.nil ?_;refine⟨rfl,Gh.only 23 8 ?_ (by first|rfl|simp -implicitDefEqProofs[H]) (by rfl)⟩
   simp -implicitDefEqProofs[hb1,hb2,g20,g20']
  refine zC (λc23=>?_) (λc23=>?_)
  ·have c23':=zN c23;have hbb:0<n/\0<=left:=by simpa[c23] using hb
   obtain⟨k,rfl⟩:∃k,n=k+1:=⟨n-1,by omega⟩
   have hk:k<row.length:=by omega
   have hk2:k+1<=row.length:=by omega
   obtain⟨it,hit⟩:∃it,row[k]=it:=⟨_,rfl⟩
   have hw1:IntKind.i64.wrap ((k:Int)+1-1)=k:=by rw[am (by omega) (by omega)];omega
   have hw0:IntKind.i64.wrap (k:Int)=k:=am (by omega) (by omega)
   have hw2:IntKind.i64.wrap (left-1)=left-1:=am (by omega) (by omega)
   have htk:(row.take (k+1)).reverse=it::(row.take k).reverse:=by rw[List.take_add_one,List.getElem?_eq_getElem hk,hit];simp
   have hmem:∀z∈row.take k,z∈row.take (k+1):=λz hz=>by rw[List.take_add_one];exact List.mem_append_left _ hz
   have i4k:∀z∈row.take k,okI X z:=λz hz=>i4 z (hmem z hz)
   have hoi:okI X it:=i4 it (by rw[List.take_add_one,List.getElem?_eq_getElem hk,hit];simp)
   have hnl:¬left<0:=by omega
   obtain⟨f,rfl⟩:∃g,f=g+1:=⟨f-1,by omega⟩
   rw[htk] at hpr;rw[wrL,if_neg hnl] at hpr;have hit64:=hoi.1;have hws:=hws it.s (by omega)
   have hws0:=hws0 it.s (by simp only[List.length_nil];omega)
   simp only[List.length_nil,Nat.zero_add,List.nil_append,show u8L ([]:List UInt8)=[] from rfl] at hws0
   replace H:=And.intro c23 (And.intro hk (And.intro hk2 (And.intro hit (And.intro hw1 (And.intro hw0 (And.intro hw2 H))))));refine WpC.skip ?_;refine WpC.block ?_;iterate 2 refine zR ?_
   refine WpC.seq ?_;refine zR ?_;refine zC (λc37=>?_) (λc37=>?_)
   ·have c37':=zN c37;have hne:¬it.s=[]:=c37';have hzw:=hpr;rw[if_neg c37'] at hzw;try(have ha:=i1 rfl;subst ha)
    try simp only[List.nil_append] at hzw ⊢
    replace H:=And.intro c37 H;refine WpC.seq ?_;first|(refine WpC.gh (Gh.nilCell (id:=1) (off:=1) 5 1 (by rfl) (by rfl) (by simp)) ?_;simp)|skip
    refine WpC.region ?_;refine zO 2 ?_;first
     |(have gg:=i2 rfl;refine zP [1,3] jL (hws) ?_)
     |(refine zP [1,4] jL (hws0) ?_)
    refine WpO.nil ?_;refine WpC.exit ?_;first
     |(have gg:=i2 rfl;exact⟨⟨true,row,k,left,acc++it.s⟩,⟨λh=>by simp at h,λ_=>by simp[hne],by simp only;omega,i4k,i5,by simp only[List.length_append,List.length_nil] at i6 ⊢;omega,f,by simp only;omega,hzw⟩,by simp only;omega,Gh.pick [6,7,2,5] [0,1,2,5] (by simp;rfl) (by simp) (by simp) (by simp) (by simp;rfl) (by simp) (by simp)⟩)
     |(exact⟨⟨true,row,k,left,it.s⟩,⟨λh=>by simp at h,λ_=>by simp[hne],by simp only;omega,i4k,i5,by simp only[List.length_append,List.length_nil] at i6 ⊢;omega,f,by simp only;omega,hzw⟩,by simp only;omega,Gh.pick [6,7,2,5] [0,1,2,5] (by simp;rfl) (by simp) (by simp) (by simp) (by simp;rfl) (by simp) (by simp)⟩)
   have c37':=zN c37;have hij:=hoi.2 c37';obtain⟨j,hj⟩:∃j:Nat,it.i=j:=⟨it.i.toNat,by omega⟩
   have hjl:j<X.length:=by omega
   have hj0:(0:Int)<=(j:Int)/\(j:Int)<X.length:=by omega
   obtain⟨x,hx⟩:∃x,X[j]=x:=⟨_,rfl⟩
   have hx2:X[j]?=some x:=by rw[List.getElem?_eq_getElem hjl,hx]
   have hvx:=hv x (hx▸List.getElem_mem hjl);have hop:=(hs j x hx2).2.2.2.1;have hpf:=kK hx2 hs hvx.1 hvx.2;have hpo:=uy x hvx.1 hvx.2 (by omega)
   have hlv:=qm x.op;have hex:rW X it=if bT x.op<it.least then⟨[40],0,0⟩::(dD x++[⟨[41],0,0⟩]) else dD x:=by rw[rW,hj,Int.toNat_natCast,List.getD_eq_getElem?_getD,hx2];rfl
   rw[if_pos c37',hex] at hpr;obtain⟨L,hL⟩:∃L,dD x=L:=⟨_,rfl⟩
   obtain⟨lv,hlvv⟩:∃l,bT x.op=l:=⟨_,rfl⟩
   rw[hL] at hpr hpf hpo;rw[hlvv] at hpr hlv;have hL1:1+L.length<=8589934592:=by omega
   have hL2:L.length+1+1<=8589934592:=by omega
   have hL3:k+L.length<=8589934592:=by omega
   have hL4:k+(L.length+1+1)<=8589934592:=by omega
   have hL5:1+L.length+1<=8589934592:=by omega
   have hL6:1+L.length<=L.length+1:=by omega
   have hL7:1+L.length<=8589934591:=by omega
   have hL8:∀d:D,List.take (1+L.length) (d::L.map It.enc)=d::L.map It.enc:=λd=>List.take_of_length_le (by simp;omega)
   have hL9:∀d:D,List.take (1+L.length) (L.map It.enc++[d])=L.map It.enc++[d]:=λd=>List.take_of_length_le (by simp;omega)
   have hL10:k+(1+L.length+1)<=8589934592:=by omega
   have hL11:1+L.length+1=L.length+1+1:=by omega
   have hLP:∀z∈(⟨[40],0,0⟩::(L++[⟨[41],0,0⟩]):List It),okI X z:=λz hz=>by
    simp only[List.mem_cons,List.mem_append,List.not_mem_nil,or_false] at hz;rcases hz with rfl|hz|rfl
    ·simp[okI]
    ·exact hpf.2.2 z hz
    ·simp[okI]
   have hk3:k<=row.length:=by omega
   have hrN:=sM L (by omega) (by omega)
   have hrP:=sM (⟨[40],0,0⟩::(L++[⟨[41],0,0⟩])) (by simp only[List.length_cons,List.length_append,List.length_nil];omega) (by simp)
   simp at hrP;replace H:=And.intro c37 (And.intro hj (And.intro hjl (And.intro hj0 (And.intro hx (And.intro hL1 (And.intro hL2 (And.intro hL3 (And.intro hL4 (And.intro hL5 (And.intro hL6 (And.intro hL7 (And.intro hL8 (And.intro hL9 (And.intro hL10 (And.intro hL11 (And.intro hk3 H))))))))))))))));refine WpC.skip ?_;iterate 2 refine zR ?_
   refine WpC.seq ?_;refine WpC.region ?_;refine zO 1 ?_;refine zP [] x7 (hpo) ?_;refine zO 1 ?_;refine WpO.nil ?_;refine WpC.seq ?_;refine WpC.seq ?_;refine WpC.drawn tabOk (by kernel_rfl) 0 (by simp) ?_
   refine yO 2 ?_;refine yG qT (hlv) ?_;refine yO 3 ?_;refine DrO.nil ⟨by kernel_rfl,?_⟩
   refine zD (lv<it.least) (λd56=>?_) (λd56=>?_)
   ·replace H:=And.intro d56 H;refine zr ?_;refine WpC.seq ?_;refine WpC.region ?_;refine zO 1 ?_;first
     |(have gg:=i2 rfl;have gh:lv<it.least:=d56;refine zP [10] dX (hrP) ?_)
     |(have gg:=i2 rfl;refine zP [6] dX (hrN) ?_)
     |(have gh:lv<it.least:=d56;refine zP [9] dX (hrP) ?_)
     |(refine zP [5] dX (hrN) ?_)
    refine WpO.nil ?_;refine zr ?_;have hst:=sf hk3 hLP (by simp only[List.length_cons,List.length_append,List.length_nil];omega) i4k hbb.2 i5.2 i6 hf (by simpa[d56] using hpr)
    obtain⟨a1,a2,a3,a4,⟨f',a5,a6⟩,a7⟩:=hst;first
     |(have gg:=i2 rfl;exact⟨⟨true,row.take k++(⟨[40],0,0⟩::(L++[⟨[41],0,0⟩])).reverse,k+(⟨[40],0,0⟩::(L++[⟨[41],0,0⟩]):List It).length,left-1,acc⟩,⟨i1,i2,a1,a2,a3,a4,f',a5,a6⟩,a7,Gh.pick [6,7,2,5] [0,1,11,3] (by simp;rfl) (by simp<;>omega) (by simp) (by simp) (by simp;rfl) (by simp) (by simp)⟩)
     |exact⟨⟨false,row.take k++(⟨[40],0,0⟩::(L++[⟨[41],0,0⟩])).reverse,k+(⟨[40],0,0⟩::(L++[⟨[41],0,0⟩]):List It).length,left-1,acc⟩,⟨i1,i2,a1,a2,a3,a4,f',a5,a6⟩,a7,Gh.pick [6,7,2,5] [0,1,10] (by simp;rfl) (by simp<;>omega) (by simp) (by simp) (by simp;rfl) (by simp) (by simp)⟩
   replace H:=And.intro d56 H;refine WpC.skip ?_;refine WpC.seq ?_;refine WpC.region ?_;refine zO 1 ?_;first
    |(have gg:=i2 rfl;have gh:lv<it.least:=d56;refine zP [10] dX (hrP) ?_)
    |(have gg:=i2 rfl;refine zP [6] dX (hrN) ?_)
    |(have gh:lv<it.least:=d56;refine zP [9] dX (hrP) ?_)
    |(refine zP [5] dX (hrN) ?_)
   refine WpO.nil ?_;refine zr ?_;have hst:=sf hk3 hpf.2.2 (by omega) i4k hbb.2 i5.2 i6 hf (by simpa[d56] using hpr)
   obtain⟨a1,a2,a3,a4,⟨f',a5,a6⟩,a7⟩:=hst;first
    |(have gg:=i2 rfl;exact⟨⟨true,row.take k++L.reverse,k+L.length,left-1,acc⟩,⟨i1,i2,a1,a2,a3,a4,f',a5,a6⟩,a7,Gh.pick [6,7,2,5] [0,1,7,3] (by simp;rfl) (by simp<;>omega) (by simp) (by simp) (by simp;rfl) (by simp) (by simp)⟩)
    |exact⟨⟨false,row.take k++L.reverse,k+L.length,left-1,acc⟩,⟨i1,i2,a1,a2,a3,a4,f',a5,a6⟩,a7,Gh.pick [6,7,2,5] [0,1,6] (by simp;rfl) (by simp<;>omega) (by simp) (by simp) (by simp;rfl) (by simp) (by simp)⟩
  have c23':=zN c23;replace H:=And.intro c23 H;refine WpC.exit ?_;refine WpC.seq ?_;refine WpC.region ?_;first
   |(have gg:=i2 rfl;refine zP [1,3] jK (hs1 gg) ?_)
   |(refine zP [1] jK (hs0) ?_)
  refine zO 1 ?_;refine WpO.nil ?_;refine WpC.ret ?_;try simp only[aa,aj]
  refine zE ?_;have hz:=hb3 c23;first
   |(have hz2:=i1 rfl;simp[hz,hz2]<;>fail)
   |(simp[hz]<;>fail)
def eY (X:List Ex) (r:Ru):List UInt8:=r.kind++32::(r.name++32::61::32::(gx X r.root++[59,10]))
def cA (R:List Ru) (X:List Ex):List UInt8:=(R.map (eY X)).flatten
theorem rC {R:List Ru} {X:List Ex} {k:Nat} (h:k<R.length):cA (R.take (k+1)) X=cA (R.take k) X++eY X R[k]:=by
 rw[cA,cA,List.take_add_one,List.getElem?_eq_getElem h,List.map_append,List.flatten_append];simp only[Option.toList_some,List.map_cons,List.map_nil,List.flatten_cons,List.flatten_nil,List.append_nil]
theorem nC {X:List Ex} (hs:gG X) (hv:∀x∈X,-9223372036854775808<=x.val/\x.val<=9223372036854775807) {r:Ru} (h0:0<=r.root/\r.root<X.length) (hk:r.kind.length<=12) (hn:r.name.length<=12):
 (eY X r).length<=64*((X.length+1)*9+2)/\(gx X r.root).length<=64*((X.length+1)*9+1):=by
 have:=ru hs hv h0.1 h0.2;simp only[eY,List.length_append,List.length_cons,List.length_nil];omega
theorem nu {R:List Ru} {X:List Ex} {B:Nat} (h:∀r∈R,(eY X r).length<=B):(cA R X).length<=R.length*B:=by
 induction R with
 |nil=>simp[cA]
 |cons r R ih=>
  have h1:=h r (List.mem_cons_self ..);have h2:=ih λq hq=>h q (List.mem_cons_of_mem _ hq)
  simp only[cA,List.map_cons,List.flatten_cons,List.length_append,List.length_cons,Nat.add_mul,Nat.one_mul] at h2 ⊢;omega
set_option maxHeartbeats 4000000 in
theorem Au (R:List Ru) (X:List Ex) (hX:X.length<=10000) (hsd:dm R X=true) (hv:∀x∈X,-9223372036854775808<=x.val/\x.val<=9223372036854775807):
 ah Tryz.prog 159 [.d (.agg [aL R,aM X])] (.d (.str (cA R X))):=by
 obtain⟨hs,hrr,hR60⟩:=gD hsd;have hrl:∀r∈R,(eY X r).length<=64*((X.length+1)*9+2)/\(gx X r.root).length<=64*((X.length+1)*9+1):=λr hr=>nC hs hv (hrr r hr).1 (hrr r hr).2.1 (hrr r hr).2.2
 refine ah.enter tabOk Tryz.func159 rfl (by show 1<=29;decide) ?_
 simp only[Tryz.f159];have H:=trivial;iterate 2 refine zR ?_
 refine WpC.seq ?_;refine zR ?_;refine WpC.block ?_;refine WpC.loopK [1,3,7,8] [9] (R.length) (():Unit) (λk _=>[(9,.d (.int .i64 k))]) (λk _=>(if k=0 then [.cells 41 [.d (aL R),.d (aM X)],.cells iA [.d .nilp,.d .nil]] else [.cells 41 [.d (aL R),.d (aM X)],.cells iA [.ref 1 0,.sl 2 (cA (R.take k) X).length],.arr 5 1 (u8L (cA (R.take k) X))])) (λk _=>True) (by simp -implicitDefEqProofs[H]<;>rfl) (Gh.cut' [9,1,3,7,8] 2 (by simp -implicitDefEqProofs[H]) (by simp -implicitDefEqProofs[H]) rfl (by simp) (by simp) (by simp)) (by simp) ?_
 rintro k ⟨⟩ hk hi;simp only[List.cons_append,List.nil_append];refine zR ?_;refine WpC.seq (zL (k<R.length) (λhlt=>?_) (λhge=>?_))
 ·refine WpC.skip ?_;have hkl:k<R.length:=hlt;obtain⟨r,hr⟩:∃r,R[k]=r:=⟨_,rfl⟩
  have hrm:r∈R:=hr▸List.getElem_mem hkl;have hrf:=hrr r hrm;have hrt:=hrl r hrm;have hw:IntKind.i64.wrap ((k:Int)+1)=k+1:=am (by omega) (by omega)
  have hst:=rC (X:=X) hkl;rw[hr] at hst;have hwr:=vj R X r.root hX hs hv hrf.1.1 hrf.1.2;have hlk:=nu (R:=R.take k) (X:=X) (B:=64*((X.length+1)*9+2)) λq hq=>(hrl q (List.mem_of_mem_take hq)).1
  have hk60:(R.take k).length*(64*((X.length+1)*9+2))<=60*(64*((X.length+1)*9+2)):=Nat.mul_le_mul_right _ (by rw[List.length_take];omega)
  obtain⟨acc,hacc⟩:∃a,cA (R.take k) X=a:=⟨_,rfl⟩
  obtain⟨acc2,hacc2⟩:∃a,cA (R.take (k+1)) X=a:=⟨_,rfl⟩
  rw[hacc] at hst hlk ⊢;rw[hacc2] at hst ⊢;have hn2:acc2.length=acc.length+(eY X r).length:=by rw[hst,List.length_append]
  have hws:=dh (p:= .ref 0 0) (.inr rfl) acc (eY X r) (by omega)
  have hws0:=dh (p:= .d .nilp) (.inl rfl) [] (eY X r) (by simp only[List.length_nil];omega)
  simp only[List.length_nil,Nat.zero_add,List.nil_append,show u8L ([]:List UInt8)=[] from rfl] at hws0
  have hk0e:k=0->acc=[]:=λh=>by rw[<-hacc,h];rfl
  obtain⟨W,hW⟩:∃W,gx X r.root=W:=⟨_,rfl⟩
  have hrT:r.kind++32::(r.name++32::61::32::(W++[59,10]))=eY X r:=by rw[eY,hW]
  rw[hW] at hwr hrt;have e1:¬(9223372036854775807:Int)<(r.kind.length:Int)+1:=by omega
  have e2:¬(9223372036854775807:Int)<(r.kind.length:Int)+1+r.name.length:=by omega
  have e3:¬(9223372036854775807:Int)<(r.kind.length:Int)+(r.name.length+1)+3:=by omega
  have e4:¬(9223372036854775807:Int)<(r.kind.length:Int)+(r.name.length+3+1)+W.length:=by omega
  have e5:¬(9223372036854775807:Int)<(r.kind.length:Int)+(r.name.length+(W.length+1+1+1)+1)+2:=by omega
  by_cases hk0:k=0;case' pos=>
   rw[if_pos hk0];have hae:=hk0e hk0;have hst2:acc2=eY X r:=by rw[hst,hae];rfl
   have hws1:=hws0
  case' neg=>
   rw[if_neg hk0];have hkp:¬k=0:=hk0;have hst2:acc2=acc++eY X r:=hst;have hws1:=hws
  all_goals
   replace H:=And.intro hlt (And.intro hkl (And.intro hr (And.intro hw (And.intro hrT (And.intro e1 (And.intro e2 (And.intro e3 (And.intro e4 (And.intro e5 H)))))))));refine WpC.seq ?_;refine WpC.block ?_;refine zR ?_;first|(refine WpC.gh (Gh.nilCell (id:=1) (off:=1) 5 1 (by rfl) (by rfl) (by simp)) ?_;simp)|skip
   refine WpC.drawn tabOk (by kernel_rfl) 1 (by simp) ?_
   iterate 3 refine yO 3 ?_
   refine yO 1 ?_;refine yG x9 (hwr) ?_;refine yO 2 ?_;first
    |(have gg:=hkp;refine DrO.call [1,2] (by simp) rfl (by simp -implicitDefEqProofs[H]<;>rfl) (by simp -implicitDefEqProofs[H]<;>rfl) jL (by simp) (by simp -implicitDefEqProofs[H]) (kj (by simp;rfl) (by simp)) (hws1) (by rfl) (by simp;rfl) (by simp[fj];rfl) (by simp[df,dH];rfl) (by simp -implicitDefEqProofs[H]<;>rfl) (by simp[dV,bG,gq];rfl) ?_)
    |(refine DrO.call [1,3] (by simp) rfl (by simp -implicitDefEqProofs[H]<;>rfl) (by simp -implicitDefEqProofs[H]<;>rfl) jL (by simp) (by simp -implicitDefEqProofs[H]) (kj (by simp;rfl) (by simp)) (hws1) (by rfl) (by simp;rfl) (by simp[fj];rfl) (by simp[df,dH];rfl) (by simp -implicitDefEqProofs[H]<;>rfl) (by simp[dV,bG,gq];rfl) ?_)
   refine DrO.nil ⟨by kernel_rfl,?_⟩
   refine zr ?_;first
    |exact⟨hlt,(),trivial,Gh.pick [9,1,3,7,8] [0,1,4] (by simp;rfl) (by simp[hw]) (by simp) (by simp) (by simp;rfl) (by simp[hst2]) (by simp)⟩
    |exact⟨hlt,Gh.pick [9,1,3,7,8] [0,1,4] (by simp;rfl) (by simp[hw]) (by simp) (by simp) (by simp;rfl) (by simp[hst2]) (by simp)⟩
 refine WpC.exit ?_;have hkn:k=R.length:=by omega
 subst hkn;simp only[List.take_length];obtain⟨acc,hacc⟩:∃a,cA R X=a:=⟨_,rfl⟩
 rw[hacc];have hs1:=λh=>nw (p:= .ref 0 0) acc h
 have hs0:=lV (p:= .d .nilp);by_cases hk0:R.length=0;case' pos=>
  rw[if_pos hk0];have hae:acc=[]:=by rw[<-hacc,List.length_eq_zero_iff.1 hk0];rfl
 case' neg=>
  rw[if_neg hk0];have hkp:acc≠ []:=by
   rw[<-hacc];cases R with
   |nil=>simp at hk0
   |cons r R=>simp[cA,eY]
 all_goals
  refine WpC.seq ?_;refine WpC.region ?_;first
   |(have gg:=hkp;refine zP [1,2] jK (hs1 gg) ?_)
   |(refine zP [1] jK (hs0) ?_)
  refine zO 1 ?_;refine WpO.nil ?_;refine WpC.ret ?_;try simp only[aa,aj]
  refine zE ?_;first
  |(have gg:=hae;subst gg;simp)
  |simp
end Go.Proofs.YtlhmejigmokbhaaGreatDoor.Pay
