/- The texts PayE, PayF, one behind the other. No statement of the seed is proved here. -/
import Derived.Test.YtlhmejigmokbhaaGreatDoorMgC
namespace Go.Proofs.YtlhmejigmokbhaaGreatDoor.Pay
open Go Go.RowKit
set_option linter.unusedVariables false
set_option linter.unusedSimpArgs false
section
variable {P:Program} {T:Nat->Option TI} {w:World} {I:Nat->Prop} {L:List Lay} {s:St} {a:Act}
def jU (w:World) (I:Nat->Prop) (L:List Lay):Option FV->Option Value->Prop
 |none,v=>v=none
 |some x,v=>∃u,v=some u/\ai w I L x u
theorem SR.evOpt (hs:SR w I L s a) {x:Option Operand} {v:Option FV} (h:Pay.evOpt s x=some v):jU w I L v (x.map a.eval):=by
 cases x with
 |none=>simp[Pay.evOpt] at h;subst h;rfl
 |some x=>
  simp only[Pay.evOpt,Option.map_eq_some_iff] at h;obtain⟨u,hu,rfl⟩:=h;exact⟨_,rfl,hs.evX hu⟩
theorem iC {k:IntKind} {n:Int} {y:Nat} {code:BoundsCode} (h0:0<=n) (h1:n.toNat<=y):(Instr.sliceBound (.int k n) y code).run P w= .ok n.toNat w:=by
 have:n<=(y:Int):=by omega
 simp[Instr.sliceBound,asIntOf,h0,this]
theorem rk {d:Nat} {x:FV} {v:Value} {n:Nat} (hx:ai w I L x v) (h:bnd d (some x)=some n):∃k m,v= .int k m/\0<=m/\m.toNat=n:=by
 unfold bnd at h;split at h
 ·rename_i he;cases he
 ·rename_i k m he;cases he;split at h
  ·rename_i h0;cases h;simp only[ai,ar] at hx;exact⟨k,m,hx,h0,rfl⟩
  ·cases h
 ·cases h
theorem dn {w':World} {isS:Bool} {len cap:Nat} {lo hi:Option FV} {vlo vhi:Option Value} {m n:Nat} (hlo:jU w I L lo vlo) (hhi:jU w I L hi vhi) (h1:bnd 0 lo=some m) (h2:bnd len hi=some n) (hmn:m<=n) (hn:n<=cap):
 (Instr.sliceBounds isS len cap vlo vhi none).run P w'= .ok (m,n,cap) w':=by
 have hh:∀code,(match vhi with|some v=>Instr.sliceBound v cap code|none=>pure len:Sem Nat).run P w'= .ok n w':=by
  intro code;cases hi with
  |none=>simp only[jU] at hhi;subst hhi;simp[bnd] at h2;subst h2;rfl
  |some x=>
   simp only[jU] at hhi;obtain⟨u,rfl,hu⟩:=hhi;obtain⟨k,q,rfl,h0,rfl⟩:=rk hu h2;exact iC h0 hn
 have hl:∀code,(match vlo with|some v=>Instr.sliceBound v n code|none=>pure 0:Sem Nat).run P w'= .ok m w':=by
  intro code;cases lo with
  |none=>simp only[jU] at hlo;subst hlo;simp[bnd] at h1;subst h1;rfl
  |some x=>
   simp only[jU] at hlo;obtain⟨u,rfl,hu⟩:=hlo;obtain⟨k,q,rfl,h0,rfl⟩:=rk hu h1;exact iC h0 hmn
 unfold Instr.sliceBounds;have e1:=hh (if isS then .sliceAcap else .sliceAlen)
 have e2:=hl .sliceB;cases vhi with
 |none=>
  simp only[Sem.run_pure,Result.ok.injEq,and_true] at e1;subst e1;cases vlo with
  |none=>simp only[Sem.run_pure,Result.ok.injEq,and_true] at e2;subst e2;simp
  |some v=>simp at e2;simp[e2]
 |some u=>
  simp only at e1;cases vlo with
  |none=>simp only[Sem.run_pure,Result.ok.injEq,and_true] at e2;subst e2;simp[e1]
  |some v=>simp at e2;simp[e1,e2]
theorem c_ {t:TypeId} {d:TypeDesc} (hd:P.underlying t=some d) (hn:∀n e,d≠ .array n e) (x:Value) (lo hi mx:Option Value):
 (Instr.sliceAt t x lo hi mx).run P w=(Instr.slice t x lo hi mx).run P w:=by
 unfold Instr.sliceAt;simp only[Sem.run_bind,aS hd,Result.andThen_ok]
theorem DQ (hs:SR w I L s a) {id k e m n cap sz:Nat} {xs:List D} {l:Lay} {hd:Option Addr} (hS:s.S[id]?=some (.arr e k xs)) (hl:L[id]?=some l) (hh:l.hdr=some (hd,cap)) (hk:k=sz) (h1:m<=n) (h2:n<=cap):
 ∃ll hd' c,L[id]?=some ll/\Value.slice (if cap=m then hd else hd.map (·.add (m*sz))) (n-m) (cap-m)= .slice hd' (n-m) c/\n-m<=c/\(n-m=0\/∃b cap',ll= .a (some b) cap'/\hd'=some ⟨b,m*k,none⟩/\cap'=m+c):=by
 refine⟨l,_,_,hl,rfl,by omega,?_⟩
 by_cases h0:n-m=0
 ·exact .inl h0
 ·right
  rcases hs.obs _ _ _ hS hl with⟨base,cp,vs,rfl,hown,_⟩|⟨hd',rfl,_⟩
  ·simp only[Lay.hdr,Option.some.injEq,Prod.mk.injEq] at hh;obtain⟨rfl,rfl⟩:=hh;cases base with
   |none=>
    rcases hown.2 with⟨h,_⟩|⟨g,cpp,cur,he,_⟩
    ·simp[Lay.head] at h;omega
    ·simp[Lay.head] at he
   |some b=>
    refine⟨b,cp,rfl,?_,by omega⟩
    rw[if_neg (by omega)]
    simp[Lay.head,Addr.add_lit,hk]
  ·simp only[Lay.hdr,Option.some.injEq,Prod.mk.injEq] at hh;omega
theorem BM (hT:aP P T) (hs:SR w I L s a) {t:TypeId} {x:FV} {lo hi:Option FV} {vx:Value} {vlo vhi:Option Value} {z:FV}
 (hx:ai w I L x vx) (hlo:jU w I L lo vlo) (hhi:jU w I L hi vhi) (h:xD T s t x lo hi=some z):
 ∃v,(∀w':World,(Instr.sliceAt t vx vlo vhi none).run P w'= .ok v w')/\ai w I L z v:=by
 unfold xD at h;simp only[Option.bind_eq_some_iff] at h;obtain⟨i,hti,h⟩:=h;have hI:=(hT _ _ hti).kind;split at h
 ·rename_i l hkd;rw[hkd] at hI;simp only[bx] at hI;simp only[Option.bind_eq_some_iff] at h;obtain⟨m,hm,n,hn,h⟩:=h;split at h
  ·rename_i hc;cases h;simp only[ai,ar] at hx ⊢;subst hx;have hsz:(⟨l.toArray⟩:ByteArray).size=l.length:=by simp[ByteArray.size]
   have hb:=λw'=>dn (P:=P) (w:=w) (w':=w') (isS:=false) (cap:=l.length) hlo hhi hm hn hc.1 hc.2
   refine⟨_,λw'=>?_,rfl⟩
   rw[c_ hI (by intro n e h;cases h)]
   simp only[Instr.slice,Sem.run_bind,aS hI,Result.andThen_ok,hsz,hb,Option.isSome_none,Bool.false_eq_true,if_false,Sem.run_pure];congr 2
   rw[Lib.extract_eq]
  ·cases h
 ·rename_i e k xs hkd;rw[hkd] at hI;simp only[bx] at hI;simp only[Option.bind_eq_some_iff] at h;obtain⟨ei,hei,h⟩:=h;split at h
  ·rename_i hk;subst hk;simp only[Option.bind_eq_some_iff] at h;obtain⟨m,hm,n,hn,h⟩:=h;split at h
   ·rename_i hc;cases h;simp only[ai,ar] at hx;obtain⟨base,c,rfl,hle,hx⟩:=hx;have hb:=λw'=>dn (P:=P) (w:=w) (w':=w') (isS:=true) (cap:=c) hlo hhi hm hn hc.1 (by omega)
    refine⟨.slice (if c=m then base else base.map (·.add (m*ei.size))) (n-m) (c-m),λw'=>?_,?_⟩
    ·rw[c_ hI (by intro n e h;cases h)]
     simp only[Instr.slice,Sem.run_bind,aS hI,Result.andThen_ok,hb,(hT _ _ hei).sizeOf,Sem.run_pure]
    ·simp only[ai,ar];have hlen:((xs.drop m).take (n-m)).length=n-m:=by rw[List.length_take,List.length_drop];omega
     refine⟨_,c-m,by rw[hlen],by omega,?_⟩
     rcases hx with hx|⟨b,o,vs,rfl,hb',hcc,hr⟩
     ·exact .inl (by subst hx;simp)
     ·by_cases hmn:m=n
      ·exact .inl (by subst hmn;simp)
      ·refine .inr ⟨b,o+m*ei.size,(vs.drop (m*ei.size)).take ((n-m)*ei.size),?_,hb',bj (bQ hcc _) _,(hr.drop m).take (n-m)⟩;rw[if_neg (by omega)]
       simp[Addr.add_lit]
   ·cases h
  ·cases h
 ·rename_i e id n0 hkd;rw[hkd] at hI;simp only[bx] at hI;simp only[Option.bind_eq_some_iff] at h;obtain⟨ei,hei,m,hm,n,hn,h⟩:=h;split at h
  ·rename_i e' k xs hS;split at h
   ·rename_i hc;obtain⟨hc0,hc1,hc2⟩:=hc;simp only[ai] at hx;obtain⟨ll,hd,cap,hl,hh,rfl⟩:=hx;have hcap:=(lY hs hS hl hh).1;have hb:=λw'=>dn (P:=P) (w:=w) (w':=w') (isS:=true) (cap:=cap) hlo hhi hm hn hc0 (by omega)
    split at h
    ·cases h;simp only[bnd,Option.some.injEq] at hm;subst hm;simp only[ai];refine⟨_,λw'=>?_,ll,hd,cap,hl,hh,rfl⟩
     rw[c_ hI (by intro n e h;cases h)]
     simp only[Instr.slice,Sem.run_bind,aS hI,Result.andThen_ok,hb,(hT _ _ hei).sizeOf,Sem.run_pure,Nat.zero_mul,Nat.sub_zero];congr 2
     cases hd<;>simp[Addr.add_zero']
    ·split at h
     ·rename_i hk;cases h;simp only[ai];refine⟨_,λw'=>?_,DQ hs hS hl hh hk hc0 (by omega)⟩
      rw[c_ hI (by intro n e h;cases h)]
      simp only[Instr.slice,Sem.run_bind,aS hI,Result.andThen_ok,hb,(hT _ _ hei).sizeOf,Sem.run_pure]
     ·cases h
   ·cases h
  ·cases h
 ·rename_i e id n0 cap hkd;rw[hkd] at hI;simp only[bx] at hI;simp only[Option.bind_eq_some_iff] at h;obtain⟨ei,hei,m,hm,n,hn,h⟩:=h;split at h
  ·rename_i e' k xs hS;split at h
   ·rename_i hc;obtain⟨hc0,hc1⟩:=hc;simp only[ai] at hx;obtain⟨ll,hd,hl,hh,rfl⟩:=hx;have hb:=λw'=>dn (P:=P) (w:=w) (w':=w') (isS:=true) (cap:=cap) hlo hhi hm hn hc0 hc1
    split at h
    ·cases h;simp only[bnd,Option.some.injEq] at hm;subst hm;simp only[ai];refine⟨_,λw'=>?_,ll,hd,hl,hh,rfl⟩
     rw[c_ hI (by intro n e h;cases h)]
     simp only[Instr.slice,Sem.run_bind,aS hI,Result.andThen_ok,hb,(hT _ _ hei).sizeOf,Sem.run_pure,Nat.zero_mul,Nat.sub_zero];congr 2
     cases hd<;>simp[Addr.add_zero']
    ·split at h
     ·rename_i hk;cases h;simp only[ai];refine⟨_,λw'=>?_,DQ hs hS hl hh hk hc0 hc1⟩
      rw[c_ hI (by intro n e h;cases h)]
      simp only[Instr.slice,Sem.run_bind,aS hI,Result.andThen_ok,hb,(hT _ _ hei).sizeOf,Sem.run_pure]
     ·cases h
   ·cases h
  ·cases h
 ·cases h
theorem ry:∀ {xs:List D} {vs:List Value} {l:List UInt8},ax w I 1 xs vs->u8s xs=some l->vs.length=l.length/\∀(j:Nat) (b:UInt8),l[j]?=some b->∃n,vs[j]?=some (.int .u8 n)/\b=UInt8.ofNat n.toNat
 |[],vs,l,h,hl=>by simp only[ax] at h;subst h;simp[u8s] at hl;subst hl;simp
 |x::xs,vs,l,h,hl=>by
  simp only[ax] at h;obtain⟨v,r,rfl,hk,h1,h2⟩:=h;unfold u8s at hl;split at hl
  ·rename_i he;cases he
  ·rename_i n q he;cases he;simp only[Option.map_eq_some_iff] at hl;obtain⟨l',hl',rfl⟩:=hl;simp only[ar] at h1;subst h1;obtain⟨e1,e2⟩:=ry h2 hl';refine⟨by simp[Value.cells,e1],λj b hb=>?_⟩
   cases j with
   |zero=>simp at hb;subst hb;exact⟨n,by simp[Value.cells],rfl⟩
   |succ j=>simpa[Value.cells] using e2 j b (by simpa using hb)
  ·cases hl
theorem nK {f:Value->ByteArray->Sem (ForInStep ByteArray)} (hf:∀n s,(f (.int .u8 n) s).run P w= .ok (.yield (s.push (UInt8.ofNat n.toNat))) w):
 ∀(vs:List Value) (l:List UInt8) (acc:ByteArray),vs.length=l.length->(∀(j:Nat) (b:UInt8),l[j]?=some b->∃n,vs[j]?=some (.int .u8 n)/\b=UInt8.ofNat n.toNat)->
 (forIn (m:=Sem) vs acc f).run P w= .ok ⟨acc.data++l.toArray⟩ w
 |[],l,acc,hlen,_=>by
  have:l=[]:=List.eq_nil_of_length_eq_zero (by simpa using hlen.symm)
  subst this;simp
 |v::r,[],acc,hlen,_=>by simp at hlen
 |v::r,b::l,acc,hlen,h=>by
  obtain⟨n,hv,hb⟩:=h 0 b rfl;simp at hv;subst hv;have ih:=nK hf r l (acc.push (UInt8.ofNat n.toNat)) (by simpa using hlen) (λj b hb=>by simpa using h (j+1) b (by simpa using hb))
  simp only[List.forIn_cons,Sem.run_bind,hf,Result.andThen_ok,ih];congr 2
  subst hb;simp[ByteArray.push]
theorem eX {b o:Nat} {vs:List Value} {l:List UInt8} {cap:Nat} (hc:aN w b o vs) (hlen:vs.length=l.length)
 (h:∀(j:Nat) (c:UInt8),l[j]?=some c->∃n,vs[j]?=some (.int .u8 n)/\c=UInt8.ofNat n.toNat):
 (Conv.bytesToString (.slice (some ⟨b,o,none⟩) l.length cap)).run P w= .ok (.string ⟨l.toArray⟩) w:=by
 have hr:=run_loadCells_list (P:=P) w ⟨b,o,none⟩ vs (λj v hv=>by have:=hc j v hv;simpa[Addr.add_lit] using this)
 rw[hlen] at hr;simp only[Conv.bytesToString,Sem.run_bind,hr,Result.andThen_ok];rw[<-Array.forIn_toList];rw[nK (P:=P) (w:=w) (λn s=>by simp) vs l _ hlen h]
 simp[ByteArray.empty,ByteArray.emptyWithCapacity];rfl
theorem BU (hT:aP P T) (hs:SR w I L s a) {src dst:TypeId} {x:FV} {vx:Value} {z:FV} (hx:ai w I L x vx) (h:BV T s src dst x=some z):
 ∃v,(∀w':World,rt w w' I (aB s.S L)->(convert src dst vx).run P w'= .ok v w')/\ai w I L z v:=by
 unfold BV at h;simp only[Option.bind_eq_some_iff] at h;obtain⟨i,hi,j,hj,h⟩:=h;have hI:=(hT _ _ hi).kind;have hJ:=(hT _ _ hj).kind;have hsrc:∃d,P.underlying src=some d:=by
  cases hkd:i.kind<;>rw[hkd] at hI<;>simp only[bx] at hI;case struct=>obtain⟨f,hf,_⟩:=hI;exact⟨_,hf⟩
  case iface=>obtain⟨f,hf⟩:=hI;exact⟨_,hf⟩
  case other=>obtain⟨d,hd,_⟩:=hI;exact⟨_,hd⟩
  all_goals exact⟨_,hI⟩
 obtain⟨ds,hds⟩:=hsrc;split at h
 ·rename_i k k' n hkd;rw[hkd] at hJ;simp only[bx] at hJ;cases h;simp only[ai,ar] at hx ⊢;subst hx;exact⟨_,λw' hg=>by simp[convert,aS hds,aS hJ,Conv.intToInt],rfl⟩
 ·rename_i k k' n hkd;rw[hkd] at hJ;simp only[bx] at hJ;cases h;simp only[ai,ar] at hx ⊢;subst hx;exact⟨_,λw' hg=>by simp[convert,aS hds,aS hJ,Conv.intToFloat],rfl⟩
 ·rename_i k f b hkd;rw[hkd] at hJ;simp only[bx] at hJ;simp only[ai,ar] at hx;subst hx;split at h
  ·rename_i n hn;split at h
   ·rename_i hc;cases h;simp only[ai,ar];exact⟨_,λw' hg=>by simp[convert,aS hds,aS hJ,Conv.floatToInt,hn,hc],rfl⟩
   ·cases h
  ·cases h
 ·rename_i l hkd;rw[hkd] at hJ;simp only[bx] at hJ;split at h
  ·rename_i hki;rw[hki] at hI;simp only[bx] at hI;cases h;simp only[ai,ar] at hx ⊢;subst hx;exact⟨_,λw' hg=>by simp[convert,aS hI,aS hJ],rfl⟩
  ·cases h
 ·rename_i k xs hkd;rw[hkd] at hJ;simp only[bx] at hJ;split at h
  ·rename_i e hki;rw[hki] at hI;simp only[bx] at hI;split at h
   ·rename_i e1 e2 e3 hte;have hE:=(hT _ _ hte).kind;simp only[bx] at hE;split at h
    ·rename_i hk;subst hk;simp only[Option.map_eq_some_iff] at h;obtain⟨l,hl,rfl⟩:=h;simp only[ai,ar] at hx ⊢;obtain⟨base,c,rfl,_,hx⟩:=hx;refine⟨_,λw' hg=>?_,rfl⟩
     rcases hx with hx|⟨b,o,vs,rfl,hIb,hc,hr⟩
     ·subst hx;simp[u8s] at hl;subst hl;cases base with
      |none=>simp[convert,aS hI,aS hJ,aS hE,Conv.bytesToString];rfl
      |some ad=>simp[convert,aS hI,aS hJ,aS hE,Conv.bytesToString,loadCells,loadCellsFrom];rfl
     ·obtain⟨hlen,hb⟩:=ry hr hl;have hlx:xs.length=l.length:=by have:=hr.length;omega
      have:=eX (P:=P) (cap:=c) (bg (hg b (.inl hIb)) hc) hlen hb;rw[<-hlx] at this;simp[convert,aS hI,aS hJ,aS hE,this]
    ·cases h
   ·cases h
  ·cases h
 ·rename_i id n hkd;rw[hkd] at hJ;simp only[bx] at hJ;split at h
  ·rename_i e hki;rw[hki] at hI;simp only[bx] at hI;split at h
   ·rename_i e1 e2 e3 hte;have hE:=(hT _ _ hte).kind;simp only[bx] at hE;split at h
    ·rename_i e' k xs hS;split at h
     ·rename_i hk;obtain⟨rfl,rfl⟩:=hk;simp only[Option.map_eq_some_iff] at h;obtain⟨l,hl,rfl⟩:=h;simp only[ai,ar] at hx ⊢;obtain⟨ll,hd,cap,hL,hh,rfl⟩:=hx;refine⟨_,λw' hg=>?_,rfl⟩
      have emp:∀l':List UInt8,l'=[]->xs=[]->(convert src dst (.slice hd xs.length cap)).run P w'= .ok (.string ⟨l'.toArray⟩) w':=by
       intro l' e1 e2;subst e1;subst e2;cases hd with
       |none=>simp[convert,aS hI,aS hJ,aS hE,Conv.bytesToString];rfl
       |some ad=>simp[convert,aS hI,aS hJ,aS hE,Conv.bytesToString,loadCells,loadCellsFrom];rfl
      rcases hs.obs _ _ _ hS hL with⟨base',cp,vs,he,hown,hr⟩|⟨hd',rfl,rfl⟩
      rotate_left
      ·simp[u8s] at hl;exact emp _ hl rfl
      cases he;simp only[Lay.hdr,Option.some.injEq,Prod.mk.injEq] at hh;obtain⟨rfl,rfl⟩:=hh;obtain⟨hlen,hb⟩:=ry hr hl;have hlx:xs.length=l.length:=by have:=hr.length;omega
      by_cases h0:0<vs.length
      ·obtain⟨b,rfl,hc⟩:=bS hown h0;have:=eX (P:=P) (cap:=cp) (bg (hg b (.inr (aw hS hL b (by simp[own])))) hc) hlen hb
       rw[<-hlx] at this;simp[convert,aS hI,aS hJ,aS hE,Lay.head,this]
      ·exact emp _ (List.eq_nil_of_length_eq_zero (by omega)) (List.eq_nil_of_length_eq_zero (by omega))
     ·cases h
    ·cases h
   ·cases h
  ·cases h
 ·cases h
theorem BK {op:UnOp} {x:FV} {vx:Value} {z:FV} (hx:ai w I L x vx) (h:BL op x=some z):∃v,(∀w':World,(Op.unary op vx).run P w'= .ok v w')/\ai w I L z v:=by
 unfold BL at h;split at h
 ·cases h;simp only[ai,ar] at hx ⊢;subst hx;exact⟨_,λ_=>by simp[Op.unary,Op.intArith],rfl⟩
 ·cases h;simp only[ai,ar] at hx ⊢;subst hx;exact⟨_,λ_=>by simp[Op.unary],rfl⟩
 ·cases h
theorem SR.evXs (hs:SR w I L s a):∀ {xs:List Operand} {vs:List FV},Pay.evXs s xs=some vs->ap w I L vs (xs.map a.eval)
 |[],vs,h=>by simp[Pay.evXs] at h;subst h;simp[ap]
 |x::r,vs,h=>by
  simp only[Pay.evXs,Option.bind_eq_some_iff,Option.map_eq_some_iff] at h;obtain⟨v,hv,us,hu,rfl⟩:=h;simp only[List.map_cons,ap];exact⟨_,_,rfl,hs.evX hv,hs.evXs hu⟩
theorem wL {w':World} {k:IntKind}:∀ {r:List FV} {vs:List Value} {x n:Int},ap w I L r vs->mxI k x r=some n->(vs.foldlM Builtin.max2 (.int k x)).run P w'= .ok (.int k n) w'
 |[],vs,x,n,h,hn=>by simp only[ap] at h;subst h;simp[mxI] at hn;subst hn;rfl
 |c::r,vs,x,n,h,hn=>by
  simp only[ap] at h;obtain⟨v,q,rfl,h1,h2⟩:=h;unfold mxI at hn;split at hn
  ·rename_i he;cases he
  ·rename_i k' y r' he;cases he;split at hn
   ·rename_i hk;subst hk;simp only[ai,ar] at h1;subst h1;simp only[List.foldlM_cons,Builtin.max2,Sem.run_bind,Sem.run_pure,Result.andThen_ok];rw[show(if y > x then y else x)=max x y from by split<;>omega]
    exact wL h2 hn
   ·cases hn
  ·cases hn
theorem wO {w':World} {k:IntKind}:∀ {r:List FV} {vs:List Value} {x n:Int},ap w I L r vs->mnI k x r=some n->(vs.foldlM Builtin.min2 (.int k x)).run P w'= .ok (.int k n) w'
 |[],vs,x,n,h,hn=>by simp only[ap] at h;subst h;simp[mnI] at hn;subst hn;rfl
 |c::r,vs,x,n,h,hn=>by
  simp only[ap] at h;obtain⟨v,q,rfl,h1,h2⟩:=h;unfold mnI at hn;split at hn
  ·rename_i he;cases he
  ·rename_i k' y r' he;cases he;split at hn
   ·rename_i hk;subst hk;simp only[ai,ar] at h1;subst h1;simp only[List.foldlM_cons,Builtin.min2,Sem.run_bind,Sem.run_pure,Result.andThen_ok];rw[show(if y<x then y else x)=min x y from by split<;>omega]
    exact wO h2 hn
   ·cases hn
  ·cases hn
theorem BW (hT:aP P T) {b:Builtin} {ts:Array TypeId} {ty:TypeId} {cs:Array Bool} {args:List FV} {vs:List Value} {z:FV} (hx:ap w I L args vs) (h:BX T s b ts args=some z):
 ∃v,(∀w':World,(builtin b ts ty cs vs.toArray).run P w'= .ok (.value v) w')/\ai w I L z v:=by
 unfold BX at h;split at h
 ·rename_i x;simp only[ap] at hx;obtain⟨vx,r,rfl,hx,rfl⟩:=hx;simp only[Option.bind_eq_some_iff] at h;obtain⟨t,ht,i,hti,h⟩:=h;have hI:=(hT _ _ hti).kind;split at h
  ·rename_i l hkd;rw[hkd] at hI;simp only[bx] at hI;simp[ml] at h;subst h;simp only[ai,ar] at hx ⊢;subst hx;have hsz:(⟨l.toArray⟩:ByteArray).size=l.length:=by simp[ByteArray.size]
   refine⟨_,λ_=>?_,rfl⟩
   simp only[builtin,Builtin.len_,List.getElem?_toArray,List.getElem?_cons_zero,ht,aS hI,goInt,Sem.run_bind,Sem.run_pure,Result.andThen_ok,hsz]
  ·rename_i e k xs hkd;rw[hkd] at hI;simp only[bx] at hI;simp[ml] at h;subst h;simp only[ai,ar] at hx ⊢;obtain⟨base,c,rfl,_,_⟩:=hx;exact⟨_,λ_=>by simp[builtin,Builtin.len_,ht,aS hI,goInt],rfl⟩
  ·rename_i e hkd;rw[hkd] at hI;simp only[bx] at hI;simp[ml] at h;subst h;simp only[ai,ar] at hx ⊢;subst hx;exact⟨_,λ_=>by simp[builtin,Builtin.len_,ht,aS hI,goInt],rfl⟩
  ·rename_i e id n hkd;rw[hkd] at hI;simp only[bx] at hI;simp[ml] at h;subst h;simp only[ai,ar] at hx ⊢;obtain⟨ll,base,c,_,_,rfl⟩:=hx;exact⟨_,λ_=>by simp[builtin,Builtin.len_,ht,aS hI,goInt],rfl⟩
  ·rename_i e id k off n hkd;rw[hkd] at hI;simp only[bx] at hI;simp[ml] at h;subst h;simp only[ai,ar] at hx ⊢;obtain⟨ll,base,c,_,rfl,_⟩:=hx;exact⟨_,λ_=>by simp[builtin,Builtin.len_,ht,aS hI,goInt],rfl⟩
  ·rename_i n e hkd;rw[hkd] at hI;simp only[bx] at hI;cases h;simp only[ai,ar];refine⟨_,λ_=>?_,rfl⟩
   simp[builtin,Builtin.len_,ht,aS hI,goInt]
  ·cases h
 ·rename_i id n c;simp only[ap] at hx;obtain⟨vx,r,rfl,hx,rfl⟩:=hx;simp only[Option.bind_eq_some_iff] at h;obtain⟨t,ht,i,hti,h⟩:=h;have hI:=(hT _ _ hti).kind;split at h
  ·rename_i e hkd;rw[hkd] at hI;simp only[bx] at hI;cases h;simp only[ai,ar] at hx ⊢;obtain⟨ll,base,_,_,rfl⟩:=hx;exact⟨_,λ_=>by simp[builtin,Builtin.cap_,ht,aS hI,goInt],rfl⟩
  ·cases h
 ·rename_i k x r;simp only[ap] at hx;obtain⟨vx,q,rfl,hx,h2⟩:=hx;simp only[ai,ar] at hx;subst hx;simp only[Option.map_eq_some_iff] at h;obtain⟨n,hn,rfl⟩:=h;exact⟨.int k n,λ_=>by simp[builtin,Builtin.max_,wL h2 hn],by simp only[ai,ar]⟩
 ·rename_i k x r;simp only[ap] at hx;obtain⟨vx,q,rfl,hx,h2⟩:=hx;simp only[ai,ar] at hx;subst hx;simp only[Option.map_eq_some_iff] at h;obtain⟨n,hn,rfl⟩:=h;exact⟨.int k n,λ_=>by simp[builtin,Builtin.min_,wO h2 hn],by simp only[ai,ar]⟩
 ·simp only[ap] at hx;obtain⟨vx,q,rfl,hx,rfl⟩:=hx;simp only[ai,ar] at hx;subst hx;cases h;exact⟨_,λ_=>rfl,by simp only[ai,ar]⟩
 ·simp only[ap] at hx;obtain⟨vx,q,rfl,hx,rfl⟩:=hx;simp only[ai,ar] at hx;subst hx;cases h;exact⟨_,λ_=>rfl,by simp only[ai,ar]⟩
 ·simp only[ap] at hx;obtain⟨vx,q,rfl,hx,vy,q',rfl,hy,rfl⟩:=hx;simp only[ai,ar] at hx hy;subst hx;subst hy;split at h
  ·rename_i hk;subst hk;cases h;rename_i k m n;have:Builtin.complex_ ts ty #[.float k m,.float k n]=pure (.complex k m n):=by
    show(if k=k then _ else _)=_
    rw[if_pos rfl]
   exact⟨.complex k m n,λ_=>by simp only[builtin,this];rfl,by simp only[ai,ar]⟩
  ·cases h
 ·cases h
end
section
variable {P:Program} {T:Nat->Option TI} {w:World} {I:Nat->Prop} {L:List Lay} {s:St} {a:Act}
theorem xu {op:BinOp} {t:TypeId} {ox oy:Operand} {x y:FV} {vx vy:Value} {z:D} (hx:ai w I L x vx) (hy:ai w I L y vy) (h:jE T op t x y=some z)
 (hn:(∃c,ox= .const c)\/(∃c,oy= .const c)\/¬(x= .d .nili/\y= .d .nili)):eqGuard op t ox oy vx vy=pure ():=by
 unfold jE at h;split at h
 ·simp only[ai,ar] at hx;subst hx;exact eqGuard_at_int ..
 ·simp only[ai,ar] at hx;subst hx;exact eqGuard_at_string ..
 ·simp only[ai,ar] at hx;subst hx;exact eqGuard_at_float ..
 ·simp only[ai,ar] at hx;subst hx;exact eqGuard_at_complex ..
 ·simp only[ai,ar] at hx;subst hx;exact eqGuard_at_bool ..
 ·simp only[ai,ar] at hx;obtain⟨_,_,rfl⟩:=hx;exact eqGuard_at_iface ..
 ·simp only[ai,ar] at hx hy;subst hx;subst hy;rcases hn with⟨c,rfl⟩|⟨c,rfl⟩|hn
  ·exact eqGuard_nil_constL ..
  ·exact eqGuard_nil_constR ..
  ·exact absurd ⟨rfl,rfl⟩ hn
 ·simp only[ai] at hx;obtain⟨_,_,rfl⟩:=hx;exact eqGuard_at_pointer ..
 ·cases h
theorem BZ (hT:aP P T) (hs:SR w I L s a) {o:Oper} {z:FV} (h:evA T s o.op=some z):∃v,(∀w':World,rt w w' I (aB s.S L)->(execOp a.eval o).run P w'= .ok (.value v) w')/\ai w I L z v:=by
 unfold execOp;unfold evA at h;split at h
 ·rename_i x he;exact⟨a.eval x,λw' hg=>by simp[he],hs.evX h⟩
 ·rename_i x he;exact⟨a.eval x,λw' hg=>by simp[he],hs.evX h⟩
 ·rename_i c x y he;simp only[Option.bind_eq_some_iff] at h;obtain⟨vc,hc,vx,hx,vy,hy,h⟩:=h;split at h
  ·rename_i t dx dy;cases h;have h1:=hs.evX hc;have h2:=hs.evX hx;have h3:=hs.evX hy;simp only[ai,ar] at h1 h2 h3;refine⟨if t=true then a.eval x else a.eval y,λw' hg=>?_,?_⟩
   ·simp[he,h1,asBool]
   ·cases t
    ·simpa only[ai,Bool.false_eq_true,if_false] using h3
    ·simpa only[ai,if_true] using h2
  ·rename_i t dx;have h1:=hs.evX hc;have h2:=hs.evX hx;simp only[ai,ar] at h1 h2;split at h
   ·rename_i ht;cases h;exact⟨a.eval x,λw' hg=>by simp[he,h1,asBool,ht],by simpa only[ai] using h2⟩
   ·cases h
  ·rename_i t dy;have h1:=hs.evX hc;have h3:=hs.evX hy;simp only[ai,ar] at h1 h3;split at h
   ·cases h
   ·rename_i ht;cases h;exact⟨a.eval y,λw' hg=>by simp[he,h1,asBool,ht],by simpa only[ai] using h3⟩
  ·cases h
 ·rename_i x he;simp only[Option.bind_eq_some_iff] at h;obtain⟨v,hv,h⟩:=h;have h1:=hs.evX hv;split at h
  ·cases h;simp only[ai] at h1;obtain⟨b,hb,h1⟩:=h1;exact⟨_,λw' hg=>by simp[he,h1];rfl,by simp only[ai];exact⟨b,hb,rfl⟩⟩
  ·cases h;simp only[ai] at h1;obtain⟨b,c,hb,h1⟩:=h1;exact⟨_,λw' hg=>by simp[he,h1];rfl,by simp only[ai];exact⟨b,c,hb,rfl⟩⟩
  ·cases h;simp only[ai] at h1;obtain⟨b,o,vs,h1,r⟩:=h1;exact⟨_,λw' hg=>by simp[he,h1];rfl,by simp only[ai];exact⟨b,o,vs,rfl,r⟩⟩
  ·cases h;simp only[ai] at h1;obtain⟨vs,h1,r⟩:=h1;exact⟨_,λw' hg=>by simp[he,h1];rfl,by simp only[ai];exact⟨vs,rfl,r⟩⟩
  ·cases h
 ·rename_i op t x y ty he;simp only[Option.bind_eq_some_iff] at h;obtain⟨vx,hx,vy,hy,h⟩:=h;have h1:=hs.evX hx;have h2:=hs.evX hy;have fin:∀z',jE T op t vx vy=some z'->((∃c,x= .const c)\/(∃c,y= .const c)\/¬(vx= .d .nili/\vy= .d .nili))->z= .d z'->
   ∃v,(∀w':World,rt w w' I (aB s.S L)->(execOp a.eval o).run P w'= .ok (.value v) w')/\ai w I L z v:=by
   intro z' hz hn e;obtain⟨v,hv,hd⟩:=xM hT h1 h2 hz;subst e;refine⟨v,λw' hg=>?_,by simpa only[ai] using hd⟩
   unfold execOp;simp[he,xu h1 h2 hz hn,hv]
  split at h
  ·split at h
   ·simp only[Option.map_eq_some_iff] at h;obtain⟨z',hz,rfl⟩:=h;simpa only[execOp] using fin z' hz (.inl ⟨_,rfl⟩) rfl
   ·simp only[Option.map_eq_some_iff] at h;obtain⟨z',hz,rfl⟩:=h;simpa only[execOp] using fin z' hz (.inr (.inl ⟨_,rfl⟩)) rfl
   ·cases h
  ·rename_i hno;simp only[Option.map_eq_some_iff] at h;obtain⟨z',hz,rfl⟩:=h;simpa only[execOp] using fin z' hz (.inr (.inr (λe=>hno e.1 e.2))) rfl
 ·rename_i op t x he;simp only[Option.bind_eq_some_iff] at h;obtain⟨v,hv,h⟩:=h;obtain⟨u,hu,hz⟩:=BK (P:=P) (hs.evX hv) h;exact⟨u,λw' hg=>by simp[he,hu],hz⟩
 ·rename_i src dst x he;simp only[Option.bind_eq_some_iff] at h;obtain⟨v,hv,h⟩:=h;obtain⟨u,hu,hz⟩:=BU hT hs (hs.evX hv) h;exact⟨u,λw' hg=>by simp[he,hu w' hg],hz⟩
 ·rename_i f first caps he
  split at h
  ·rename_i h0;simp only[Option.map_eq_some_iff] at h;obtain⟨vs,hv,rfl⟩:=h;have hf:first= #[]:=by simpa using h0
   subst hf;refine⟨.func (.func f) #[] (caps.map a.eval),λw' hg=>by simp[he,Instr.makeFunc],?_⟩
   simp only[ai];refine⟨caps.toList.map a.eval,?_,hs.evXs hv⟩;congr 1
   apply Array.ext';simp
  ·cases h
 ·rename_i t x he;simp only[Option.bind_eq_some_iff] at h;obtain⟨v,hv,i,hi,h⟩:=h;have hI:=(hT _ _ hi).kind;split at h
  ·cases h
  ·rename_i hno;cases h;refine⟨.iface t (a.eval x),λw' hg=>?_,by simp only[ai,ar];exact⟨_,_,rfl⟩⟩
   have:(Instr.makeInterface t (a.eval x)).run P w'= .ok (.iface t (a.eval x)) w':=by
    cases hk:i.kind<;>rw[hk] at hI<;>simp only[bx] at hI;case iface=>exact absurd hk hno
    case struct=>obtain⟨f,hf,_⟩:=hI;simp[Instr.makeInterface,aS hf]
    case other=>
     obtain⟨d,hd,hn⟩:=hI;cases d<;>simp_all [Instr.makeInterface,run_underlying hd]
    all_goals simp[Instr.makeInterface,aS hI]
   simp[he,this]
 ·rename_i t p he;simp only[Option.bind_eq_some_iff] at h;obtain⟨v,hv,h⟩:=h;obtain⟨u,hu,hz⟩:=tu hT hs (hs.evX hv) h;exact⟨u,λw' hg=>by simp[he,hu w' hg],hz⟩
 ·rename_i t p f he;simp only[Option.bind_eq_some_iff] at h;obtain⟨v,hv,h⟩:=h;obtain⟨u,hu,hz⟩:=BS hT (hs.evX hv) h;exact⟨u,λw' hg=>by simp[he,hu],hz⟩
 ·rename_i t x f he;simp only[Option.bind_eq_some_iff] at h;obtain⟨v,hv,h⟩:=h;obtain⟨u,hu,hz⟩:=rX hT (hs.evX hv) h;exact⟨u,λw' hg=>by simp[he,hu],hz⟩
 ·rename_i t x i he;simp only[Option.bind_eq_some_iff] at h;obtain⟨v,hv,j,hj,h⟩:=h;obtain⟨u,hu,hz⟩:=BR hT hs (hs.evX hv) (hs.evX hj) h;exact⟨u,λw' hg=>by simp[he,hu],hz⟩
 ·rename_i t x i he;simp only[Option.bind_eq_some_iff] at h;obtain⟨v,hv,j,hj,h⟩:=h;obtain⟨u,hu,hz⟩:=BP hT (hs.evX hv) (hs.evX hj) h;exact⟨u,λw' hg=>by simp[he,hu],hz⟩
 ·rename_i t x lo hi he;simp only[Option.bind_eq_some_iff] at h;obtain⟨v,hv,l,hl,m,hm,h⟩:=h;obtain⟨u,hu,hz⟩:=BM hT hs (hs.evX hv) (hs.evOpt hl) (hs.evOpt hm) h;exact⟨u,λw' hg=>by simp[he,hu],hz⟩
 ·rename_i x i he;simp only[Option.bind_eq_some_iff] at h;obtain⟨v,hv,h⟩:=h;have h1:=hs.evX hv;split at h
  ·rename_i vs;simp only[ai] at h1;obtain⟨us,h1,hr⟩:=h1;obtain⟨u,hu,hz⟩:=hr.get i z h;exact⟨u,λw' hg=>by simp[he,Instr.extract,h1,hu],hz⟩
  ·cases h
 ·rename_i t x k ok he;simp only[Option.bind_eq_some_iff] at h;obtain⟨v,hv,j,hj,h⟩:=h;obtain⟨u,hu,hz⟩:=BN (P:=P) hT hs (hs.evX hv) (hs.evX hj) h;exact⟨u,λw' hg=>by simp[he,hu w' λb hb=>hg b hb],hz⟩
 ·rename_i b args ts he;simp only[Option.bind_eq_some_iff] at h;obtain⟨vs,hv,h⟩:=h;obtain⟨u,hu,hz⟩:=BW (P:=P) hT (ty:=o.type) (cs:=args.map λ| .const _=>true|_=>false) (hs.evXs hv) h
  refine⟨u,λw' hg=>?_,hz⟩
  simp only[he,resolve,Sem.run_bind,Sem.run_pure,Result.andThen_ok,invoke];rw[<-hu w'];congr 2
  apply Array.ext';simp
 ·cases h
theorem FC (hT:aP P T) (hs:SR w I L s a) {o:Oper} {z:FV} (h:evA T s o.op=some z):∃v,(execOp a.eval o).run P w= .ok (.value v) w/\ai w I L z v:=by
 obtain⟨v,h1,h2⟩:=BZ hT hs h;exact⟨v,h1 w λ_ _=>rfl,h2⟩
end
def bh (all:Array Oper) (s:St) (o:Oper):Option Bool:=match o.guard with
 |none=>some true
 |some (j,want)=>match (all[j]?).bind (·.dst) with
  |none=>some false
  |some d=>match get s.env d with
   |some (.d (.bool b))=>some (b==want)
   |some (.tup [])=>some false
   |_=>none
def aY (s:St) (dst:Option Nat) (x:FV):Option St:=match dst with
 |none=>some s
 |some d=>if d<s.nt then some {s with env:=(d,x)::s.env} else none
section
variable {P:Program} {T:Nat->Option TI} {all:Array Oper} {o:Oper} {rest:List Oper} {s s':St} {Q:Exit->St->Prop}
theorem SR.want {w:World} {I:Nat->Prop} {L:List Lay} {a:Act} (hs:SR w I L s a) {b:Bool} (h:bh all s o=some b):Region.wanted o (yielded all a.tmps)=b:=by
 unfold bh at h;unfold Region.wanted;cases hg:o.guard with
 |none=>simp[hg] at h;simpa using h
 |some p=>
  obtain⟨j,want⟩:=p;simp only[hg] at h;simp only[yielded];cases hd:(all[j]?).bind (·.dst) with
  |none=>simp[hd] at h;subst h;simp
  |some d=>
   simp only[hd] at h;simp only[Option.bind_some];split at h
   ·rename_i c hc;have:=hs.env _ _ hc;simp only[ai,ar] at this;cases h;have hlt:a.tmps[d]?=some (.bool c):=by
     cases hq:a.tmps[d]? with
     |none=>simp[Array.getD_eq_getD_getElem?,hq,undef] at this
     |some v=>simp[Array.getD_eq_getD_getElem?,hq] at this;rw[this]
    simp[hlt]
   ·rename_i hc;have:=hs.env _ _ hc;simp only[ai,ap] at this;obtain⟨vs,hv,rfl⟩:=this;cases h;cases hq:a.tmps[d]? with
    |none=>simp
    |some v=>simp[Array.getD_eq_getD_getElem?,hq] at hv;subst hv;simp
   ·cases h
theorem SR.put {w:World} {I:Nat->Prop} {L:List Lay} {a:Act} (hs:SR w I L s a) {dst:Option Nat} {x:FV} {v:Value} (hx:ai w I L x v) (h:aY s dst x=some s'):
 SR w I L s' (a.put dst v)/\s'.S=s.S/\s'.pin=s.pin:=by
 unfold aY at h;cases dst with
 |none=>cases h;exact⟨hs,rfl,rfl⟩
 |some d=>
  simp only at h;split at h
  ·rename_i hd;cases h;refine⟨⟨λt y hy=>?_,?_,hs.len,hs.obs,hs.nodup,hs.sep,hs.imm,hs.defers⟩,rfl,rfl⟩
   ·simp only[get] at hy;by_cases hdt:d=t
    ·rw[if_pos hdt] at hy;cases hy;subst hdt;simp only[Act.put,Array.getD_eq_getD_getElem?,Array.getElem?_setIfInBounds,if_true];rw[if_pos (by rw[hs.nt];exact hd)]
     exact hx
    ·rw[if_neg hdt] at hy;simp only[Act.put,Array.getD_eq_getD_getElem?,Array.getElem?_setIfInBounds,if_neg hdt];simpa only[Array.getD_eq_getD_getElem?] using hs.env t y hy
   ·simp[Act.put,hs.nt]
  ·cases h
theorem WpO.nil (h:Q .normal s):WpO P all [] s Q:=λ_ _ _ _ hs=>ep hs h
theorem WpC.region {id:Nat} {ops:Array Oper} (h:WpO P ops ops.toList s Q):WpC P (.region id ops false) s Q:=λw I L a hs=>wp_region_list (h w I L a hs)
theorem WpO.skip (hw:bh all s o=some false) (hset:aY s o.dst (.tup [])=some s') (h:WpO P all rest s' Q):WpO P all (o::rest) s Q:=λw I L a hs=>by
 unfold wpList;rw[if_neg (by rw[hs.want hw];simp)]
 have hx:ai w I L (.tup []) undef:=by simp only[ai,ap];exact⟨[],rfl,rfl⟩
 obtain⟨h1,h2,h3⟩:=hs.put hx hset;refine bN (λe a' w' p=>p.from ⟨?_,h3,λ_ _=>rfl⟩) _ _ _ (h w I L _ h1)
 rw[h2];exact Evo.refl _ _ _
def bK (P:Program) (o:Oper) (s s':St):Prop:=
 ∀w I L a,SR w I L s a->∃r w' I' L' v,(execOp a.eval o).run P w= .ok r w'/\(r= .value v\/r= .skip/\v=undef)/\SR w' I' L' s' (a.put o.dst v)/\bq w I L s w' I' L' s'
theorem WpO.step (hw:bh all s o=some true) (ho:bK P o s s') (h:WpO P all rest s' Q):WpO P all (o::rest) s Q:=λw I L a hs=>by
 unfold wpList;rw[if_pos (hs.want hw)];obtain⟨r,w',I',L',v,hr,hv,h1,h2⟩:=ho w I L a hs;refine .inl ?_;unfold Oper.wp;rw[hr];have:=bN (λe a' w' p=>mY.from h2 p) _ _ _ (h w' I' L' _ h1)
 rcases hv with rfl|⟨rfl,rfl⟩<;>exact this
theorem bK.val (hT:aP P T) {x:FV} (hx:evA T s o.op=some x) (hset:aY s o.dst x=some s'):bK P o s s':=λw I L a hs=>by
 obtain⟨v,hv,hz⟩:=FC hT hs hx;obtain⟨h1,h2,h3⟩:=hs.put hz hset;refine⟨_,w,I,L,v,hv,.inl rfl,h1,⟨?_,h3,λ_ _=>rfl⟩⟩
 rw[h2];exact Evo.refl _ _ _
end
end Go.Proofs.YtlhmejigmokbhaaGreatDoor.Pay
