/- The texts PayC, MpA, one behind the other. No statement of the seed is proved here. -/
import Derived.Test.YtlhmejigmokbhaaGreatDoorMgA
import Derived.Lib.Strings
import Derived.MapKept
namespace Go.Proofs.YtlhmejigmokbhaaGreatDoor.Pay
open Go Go.RowKit
set_option linter.unusedVariables false
set_option linter.unusedSimpArgs false
inductive TK where
 |int (k:IntKind)
 |bool
 |str
 |flt (k:FloatKind)
 |cpx (k:FloatKind)
 |slice (e:Nat)
 |struct (fs:List (Nat×Nat))
 |array (n e:Nat)
 |ptr (e:Nat)
 |map (k e:Nat)
 |iface
 |other
structure TI where
 kind:TK
 size:Nat
 bytes:Nat
 zero:List D
def TI.ag (i:TI):Bool:=match i.kind with
 | .struct _| .array _ _=>true
 |_=>false
def mc:Value->Option D
 | .bool b=>some (.bool b)
 | .int k n=>some (.int k n)
 | .string s=>some (.str s.data.toList)
 | .float k b=>some (.flt k b)
 | .complex k a b=>some (.cpx k a b)
 | .slice none 0 0=>some .nil
 | .pointer none=>some .nilp
 | .nilIface=>some .nili
 | .map none=>some .nilm
 |_=>none
def dr:List Value->Option (List D)
 |[]=>some []
 |v::r=>(mc v).bind λx=>(dr r).map (x:: ·)
def sW:Value->Option D
 | .agg cs=>(dr cs.toList).map .agg
 |v=>mc v
def bx (P:Program) (t:TypeId):TK->Prop
 | .int k=>P.underlying t=some (.int k)
 | .bool=>P.underlying t=some .bool
 | .str=>P.underlying t=some .string
 | .flt k=>P.underlying t=some (.float k)
 | .cpx k=>P.underlying t=some (.complex k)
 | .slice e=>P.underlying t=some (.slice e)
 | .struct fs=>∃a:Array Field,P.underlying t=some (.struct a)/\a.toList.map (λf=>(f.offset,f.type))=fs
 | .array n e=>P.underlying t=some (.array n e)
 | .ptr e=>P.underlying t=some (.pointer e)
 | .map k e=>P.underlying t=some (.map k e)
 | .iface=>∃ms,P.underlying t=some (.interface ms)
 | .other=>∃d,P.underlying t=some d/\(match d with| .struct _| .array _ _| .interface _=>False|_=>True)
structure aq (P:Program) (t:TypeId) (i:TI):Prop where
 kind:bx P t i.kind
 info:∃j z,P.info? t=some j/\j.size=i.size/\j.bytes=i.bytes/\j.zero=some z/\dr z.cells.toList=some i.zero/\z.cells.size=i.size
 one:i.ag=false->∃j z,P.info? t=some j/\j.zero=some z/\z.oneCell'=true
def aP (P:Program) (T:Nat->Option TI):Prop:=∀t i,T t=some i->aq P t i
theorem nM {w:World} {I:Nat->Prop}:∀ {v:Value} {x:D},mc v=some x->ar w I x v/\v.oneCell'=true/\x.cs=[x]:=by
 intro v x h;unfold mc at h;split at h<;>simp at h<;>subst h<;>simp[ar,Value.oneCell',D.cs]
theorem db {w:World} {I:Nat->Prop}:∀ {vs:List Value} {xs:List D},dr vs=some xs->au w I xs vs/\bA vs
 |[],xs,h=>by simp[dr] at h;subst h;simp[au,bA]
 |v::r,xs,h=>by
  simp only[dr,Option.bind_eq_some_iff,Option.map_eq_some_iff] at h;obtain⟨x,hx,ys,hy,rfl⟩:=h;obtain⟨h1,h2,_⟩:=nM (w:=w) (I:=I) hx;obtain⟨h3,h4⟩:=db (w:=w) (I:=I) hy;refine⟨by simp only[au];exact⟨v,r,rfl,h1,h3⟩,λu hu=>?_⟩
  rcases List.mem_cons.1 hu with rfl|hu
  ·exact h2
  ·exact h4 u hu
theorem wI {w:World} {I:Nat->Prop} {v:Value} {x:D} (h:sW v=some x):ar w I x v:=by
 unfold sW at h;split at h
 ·rename_i cs;simp only[Option.map_eq_some_iff] at h;obtain⟨xs,hx,rfl⟩:=h;obtain⟨h1,h2⟩:=db (w:=w) (I:=I) hx;simp only[ar];exact⟨cs.toList,by simp,h2,h1⟩
 ·exact(nM h).1
def evX (s:St):Operand->Option FV
 | .tmp t=>get s.env t
 | .const v=>(sW v).map .d
 | .func f=>some (.fn f [])
 | .global _=>none
section
variable {P:Program} {T:Nat->Option TI} {w:World} {I:Nat->Prop} {L:List Lay} {s:St} {a:Act}
theorem SR.evX (hs:SR w I L s a) {x:Operand} {v:FV} (h:evX s x=some v):ai w I L v (a.eval x):=by
 cases x with
 |tmp t=>exact hs.env t v h
 |const c=>
  simp only[Pay.evX,Option.map_eq_some_iff] at h;obtain⟨x,hx,rfl⟩:=h;simp only[ai,Act.eval];exact wI hx
 |func f=>
  simp only[Pay.evX,Option.some.injEq] at h;subst h;simp[ai,Act.eval,ap]
 |global g=>cases h
theorem aS {t:TypeId} {d:TypeDesc} (h:P.underlying t=some d):(underlying t).run P w= .ok d w:=run_underlying h w
theorem aq.zero1 {t:TypeId} {i:TI} (h:aq P t i) (hag:i.ag=false):∃z d,(Go.zeroValue t).run P w= .ok z w/\i.zero=[d]/\ar w I d z:=by
 obtain⟨j,z,hj,hz,h1⟩:=h.one hag;obtain⟨j',z',hj',_,_,hz',h4,_⟩:=h.info;rw[hj] at hj';cases hj';rw[hz] at hz';cases hz';have hc:z.cells.toList=[z]:=by cases z<;>simp_all [Value.oneCell',Value.cells]
 rw[hc] at h4;obtain⟨hr,_⟩:=db (w:=w) (I:=I) h4;refine⟨z,(i.zero.headD .nil),by simp[Go.zeroValue,typeInfo,hj,hz],?_,?_⟩
 all_goals
  cases hi:i.zero with
  |nil=>rw[hi] at hr;simp[au] at hr
  |cons x r=>
   rw[hi] at hr;simp only[au,List.cons.injEq] at hr;obtain⟨v,r',⟨rfl,rfl⟩,h2,h3⟩:=hr;cases r with
   |nil=>first|rfl|exact h2
   |cons y ys=>simp[au] at h3
theorem aq.sizeOf {t:TypeId} {i:TI} (h:aq P t i):(sizeOf t).run P w= .ok i.size w:=by
 obtain⟨j,z,hj,h1,_⟩:=h.info;simp[Go.sizeOf,typeInfo,hj,h1]
theorem aq.zeroValue {t:TypeId} {i:TI} (h:aq P t i):∃z,(zeroValue t).run P w= .ok z w/\dr z.cells.toList=some i.zero/\z.cells.size=i.size:=by
 obtain⟨j,z,hj,h1,_,h3,h4,h5⟩:=h.info;exact⟨z,by simp[Go.zeroValue,typeInfo,hj,h3],h4,h5⟩
theorem aq.isAgg {t:TypeId} {i:TI} (h:aq P t i):(isAgg t).run P w= .ok i.ag w:=by
 have hk:=h.kind;unfold TI.ag;cases hkd:i.kind<;>rw[hkd] at hk<;>simp only[bx] at hk;case struct=>obtain⟨f,hf,_⟩:=hk;simp[Go.isAgg,aS hf]
 case iface=>obtain⟨f,hf⟩:=hk;simp[Go.isAgg,aS hf]
 case other=>
  obtain⟨d,hd,hn⟩:=hk;cases d<;>simp_all [Go.isAgg,run_underlying hd]
 all_goals simp[Go.isAgg,aS hk]
def tv (op:BinOp) (k:IntKind) (a b:Int):Option D:=
 match op with
 | .add=>some (.int k (k.wrap (a+b)))
 | .sub=>some (.int k (k.wrap (a-b)))
 | .mul=>some (.int k (k.wrap (a*b)))
 | .quo=>if b=0 then none else some (.int k (k.wrap (a.tdiv b)))
 | .rem=>if b=0 then none else some (.int k (a.tmod b))
 | .and=>some (.int k (bits .and k a b))
 | .or=>some (.int k (bits .or k a b))
 | .xor=>some (.int k (bits .xor k a b))
 | .andNot=>some (.int k (bits .andNot k a b))
 | .eql=>some (.bool (a==b))
 | .neq=>some (.bool (a != b))
 | .lss=>some (.bool (decide (a<b)))
 | .leq=>some (.bool (decide (a<=b)))
 | .gtr=>some (.bool (decide (b<a)))
 | .geq=>some (.bool (decide (b<=a)))
 |_=>none
def tq (op:BinOp) (a b:List UInt8):Option D:=
 match op with
 | .add=>if ((a.length+b.length:Nat):Int) > 9223372036854775807 then none else some (.str (a++b))
 | .eql=>some (.bool (a==b))
 | .neq=>some (.bool (!(a==b)))
 |_=>none
def tw (op:BinOp) (k:FloatKind) (a b:Nat):Option D:=
 match op with
 | .add=>(k.format.add a b).map (.flt k ·)
 | .sub=>(k.format.sub a b).map (.flt k ·)
 | .eql=>some (.bool (k.format.order a b==some .eq))
 | .neq=>some (.bool (k.format.order a b != some .eq))
 |_=>none
def tz (op:BinOp) (k:FloatKind) (a b c d:Nat):Option D:=
 match op with
 | .add=>(k.format.add a c).bind λx=>(k.format.add b d).map λy=> .cpx k x y
 | .eql=>some (.bool (k.format.order a c==some .eq&&k.format.order b d==some .eq))
 | .neq=>some (.bool (!(k.format.order a c==some .eq&&k.format.order b d==some .eq)))
 |_=>none
def jE (T:Nat->Option TI) (op:BinOp) (t:TypeId) (x y:FV):Option D:=
 match x,y with
 | .d (.int k a),.d (.int k' b)=>if k=k' then(match op with
  | .shl=>if 0<=b then some (.int k (k.wrap (a*2^(min b.toNat k.bits)))) else none
  | .shr=>if 0<=b then some (.int k (a.fdiv (2^(min b.toNat k.bits)))) else none
  |_=>tv op k a b) else none
 | .d (.str a),.d (.str b)=>tq op a b
 | .d (.flt k a),.d (.flt k' b)=>if k=k' then tw op k a b else none
 | .d (.cpx k a b),.d (.cpx k' c d)=>if k=k' then tz op k a b c d else none
 | .d (.bool a),.d (.bool b)=>match T t with
  |some ⟨.bool,_,_,_⟩=>(match op with
   | .eql=>some (.bool (a==b))
   | .neq=>some (.bool (!(a==b)))
   |_=>none)
  |_=>none
 | .d .any,.d .nili=>match T t with
  |some ⟨.iface,_,_,_⟩=>(match op with
   | .eql=>some (.bool false)
   | .neq=>some (.bool true)
   |_=>none)
  |_=>none
 | .d .nili,.d .nili=>match T t with
  |some ⟨.iface,_,_,_⟩=>(match op with
   | .eql=>some (.bool true)
   | .neq=>some (.bool false)
   |_=>none)
  |_=>none
 | .ref _ _,.d .nilp=>match T t with
  |some ⟨.ptr _,_,_,_⟩=>(match op with
   | .eql=>some (.bool false)
   | .neq=>some (.bool true)
   |_=>none)
  |_=>none
 |_,_=>none
theorem xG {op:BinOp} {k:IntKind} {m n:Int} {t:TypeId} {z:D} (h:tv op k m n=some z):
 ∃v,(∀w':World,(binOp op t (.int k m) (.int k n)).run P w'= .ok v w')/\ar w I z v:=by
 cases op<;>simp only[tv,Option.some.injEq,reduceCtorEq] at h;case quo=>
  split at h
  ·cases h
  ·rename_i hb;cases h;exact⟨_,λ_=>by simp[binOp,Op.intDiv,hb];rfl,by simp[ar]⟩
 case rem=>
  split at h
  ·cases h
  ·rename_i hb;cases h;exact⟨_,λ_=>by simp[binOp,Op.intDiv,hb];rfl,by simp[ar]⟩
 all_goals(subst h;exact⟨_,λ_=>by simp[binOp,Op.intArith,Op.intCmp,intBits_and,intBits_or,intBits_xor,intBits_andNot];rfl,by simp[ar]⟩)
theorem og (x y:List UInt8):((⟨x.toArray⟩:ByteArray).toList==(⟨y.toArray⟩:ByteArray).toList)=(x==y):=by
 rw[Lib.toList_data,Lib.toList_data]
theorem xC {op:BinOp} {x y:List UInt8} {t:TypeId} {z:D} (h:tq op x y=some z):
 ∃v,(∀w':World,(binOp op t (.string ⟨x.toArray⟩) (.string ⟨y.toArray⟩)).run P w'= .ok v w')/\ar w I z v:=by
 cases op<;>simp only[tq,Option.some.injEq,reduceCtorEq] at h;case add=>
  split at h
  ·cases h
  ·rename_i hb;cases h;refine⟨.string ⟨(x++y).toArray⟩,λw'=>?_,by simp only[ar]⟩
   have hsz:((⟨x.toArray⟩:ByteArray).size:Nat)=x.length:=by simp[ByteArray.size]
   have hsz2:((⟨y.toArray⟩:ByteArray).size:Nat)=y.length:=by simp[ByteArray.size]
   simp only[binOp,Op.stringOp,hsz,hsz2,IntKind.max_i64,if_neg hb,Sem.run_pure];rfl
 case eql=>subst h;exact⟨_,λ_=>by simp only[binOp,Op.stringOp,Sem.run_pure];rfl,by simp only[ar,og]⟩
 case neq=>subst h;exact⟨_,λ_=>by simp only[binOp,Op.stringOp,Sem.run_pure];rfl,by simp only[ar,og]⟩
theorem xI {op:BinOp} {k:FloatKind} {m n:Nat} {t:TypeId} {z:D} (h:tw op k m n=some z):
 ∃v,(∀w':World,(binOp op t (.float k m) (.float k n)).run P w'= .ok v w')/\ar w I z v:=by
 cases op<;>simp only[tw,Option.some.injEq,reduceCtorEq,Option.map_eq_some_iff] at h;case add=>obtain⟨r,hr,rfl⟩:=h;exact⟨_,λ_=>by simp[binOp,Op.floatArith,hr];rfl,by simp[ar]⟩
 case sub=>obtain⟨r,hr,rfl⟩:=h;exact⟨_,λ_=>by simp[binOp,Op.floatArith,hr];rfl,by simp[ar]⟩
 all_goals(subst h;exact⟨_,λ_=>by simp[binOp,Op.floatCmp];rfl,by simp[ar]⟩)
theorem xK {op:BinOp} {k:FloatKind} {m n p q:Nat} {t:TypeId} {z:D} (h:tz op k m n p q=some z):
 ∃v,(∀w':World,(binOp op t (.complex k m n) (.complex k p q)).run P w'= .ok v w')/\ar w I z v:=by
 cases op<;>simp only[tz,Option.some.injEq,reduceCtorEq,Option.map_eq_some_iff,Option.bind_eq_some_iff] at h;case add=>
  obtain⟨r,hr,r',hr',rfl⟩:=h;exact⟨_,λ_=>by simp[binOp,Op.complexOp,Op.Complex.arith,Op.floatArith,hr,hr'];rfl,by simp[ar]⟩
 all_goals(subst h;exact⟨_,λ_=>by simp[binOp,Op.complexOp,Op.Complex.cmp,Op.floatCmp,asBool];rfl,by simp[ar]⟩)
theorem n7 (d:Nat) {t:TypeId} (m n:Bool) (hk:P.underlying t=some .bool):(Op.equalIn (d+1) t (.bool m) (.bool n)).run P w= .ok (m==n) w:=by
 simp[Op.equalIn,aS hk]
theorem qJ (d:Nat) {t u:TypeId} {v:Value} {ms:Array (String×TypeId)} (hk:P.underlying t=some (.interface ms)):(Op.equalIn (d+1) t (.iface u v) .nilIface).run P w= .ok false w:=by
 simp[Op.equalIn,aS hk]
theorem qI (d:Nat) {t:TypeId} {ms:Array (String×TypeId)} (hk:P.underlying t=some (.interface ms)):(Op.equalIn (d+1) t .nilIface .nilIface).run P w= .ok true w:=by
 simp[Op.equalIn,aS hk]
theorem qH (d:Nat) {t e:TypeId} {b:Addr} (hk:P.underlying t=some (.pointer e)):(Op.equalIn (d+1) t (.pointer (some b)) (.pointer none)).run P w= .ok false w:=by
 simp[Op.equalIn,aS hk]
theorem ey {t:TypeId} {x y:Value} {r:Bool} (h1:binOp .eql t x y=(do pure (.bool (<-Op.equal t x y)))) (h:∀d,(Op.equalIn (d+1) t x y).run P w= .ok r w):
 (binOp .eql t x y).run P w= .ok (.bool r) w:=by
 have:=h 9999;rw[h1];unfold Op.equal Op.maxDepth;simp[this]
theorem fU {t:TypeId} {x y:Value} {r:Bool} (h1:binOp .neq t x y=(do pure (.bool (!(<-Op.equal t x y))))) (h:∀d,(Op.equalIn (d+1) t x y).run P w= .ok r w):
 (binOp .neq t x y).run P w= .ok (.bool !r) w:=by
 have:=h 9999;rw[h1];unfold Op.equal Op.maxDepth;simp[this]
theorem xM (hT:aP P T) {op:BinOp} {t:TypeId} {x y:FV} {vx vy:Value} {z:D} (hx:ai w I L x vx) (hy:ai w I L y vy) (h:jE T op t x y=some z):
 ∃v,(∀w':World,(binOp op t vx vy).run P w'= .ok v w')/\ar w I z v:=by
 unfold jE at h;split at h
 ·rename_i k m k' n;simp only[ai,ar] at hx hy;subst hx;subst hy;split at h
  ·rename_i hk;subst hk;split at h
   ·split at h
    ·rename_i hb;cases h;exact⟨_,λ_=>by simp[binOp,Op.shift,Int.not_lt.2 hb];rfl,by simp[ar]⟩
    ·cases h
   ·split at h
    ·rename_i hb;cases h;exact⟨_,λ_=>by simp[binOp,Op.shift,Int.not_lt.2 hb];rfl,by simp[ar]⟩
    ·cases h
   ·exact xG h
  ·cases h
 ·simp only[ai,ar] at hx hy;subst hx;subst hy;exact xC h
 ·simp only[ai,ar] at hx hy;subst hx;subst hy;split at h
  ·rename_i hk;subst hk;exact xI h
  ·cases h
 ·simp only[ai,ar] at hx hy;subst hx;subst hy;split at h
  ·rename_i hk;subst hk;exact xK h
  ·cases h
 ·simp only[ai,ar] at hx hy;subst hx;subst hy;split at h
  ·rename_i hi;have hk:=(hT _ _ hi).kind;simp only[bx] at hk;split at h
   ·cases h;exact⟨_,λ_=>ey rfl (λd=>n7 d _ _ hk),by simp[ar]⟩
   ·cases h;exact⟨_,λ_=>fU rfl (λd=>n7 d _ _ hk),by simp[ar]⟩
   ·cases h
  ·cases h
 ·simp only[ai,ar] at hx hy;obtain⟨tt,u,rfl⟩:=hx;subst hy;split at h
  ·rename_i hi;have hk:=(hT _ _ hi).kind;simp only[bx] at hk;obtain⟨ms,hk⟩:=hk;split at h
   ·cases h;exact⟨_,λ_=>ey rfl (λd=>qJ d hk),by simp[ar]⟩
   ·cases h;exact⟨_,λ_=>fU rfl (λd=>qJ d hk),by simp[ar]⟩
   ·cases h
  ·cases h
 ·simp only[ai,ar] at hx hy;subst hx;subst hy;split at h
  ·rename_i hi;have hk:=(hT _ _ hi).kind;simp only[bx] at hk;obtain⟨ms,hk⟩:=hk;split at h
   ·cases h;exact⟨_,λ_=>ey rfl (λd=>qI d hk),by simp[ar]⟩
   ·cases h;exact⟨_,λ_=>fU rfl (λd=>qI d hk),by simp[ar]⟩
   ·cases h
  ·cases h
 ·simp only[ai,ar] at hx hy;obtain⟨b,_,rfl⟩:=hx;subst hy;split at h
  ·rename_i hi;have hk:=(hT _ _ hi).kind;simp only[bx] at hk;split at h
   ·cases h;exact⟨_,λ_=>ey rfl (λd=>qH d hk),by simp[ar]⟩
   ·cases h;exact⟨_,λ_=>fU rfl (λd=>qH d hk),by simp[ar]⟩
   ·cases h
  ·cases h
 ·cases h
end
def qt:D->D->Option Bool
 | .int k a,.int k' b=>if k=k' then some (decide (a=b)) else none
 | .str a,.str b=>some (decide (a=b))
 |_,_=>none
def jA (k:D):List D->Nat->Option (Option Nat)
 |[],_=>some none
 |x::r,i=>(qt k x).bind λb=>if b=true then some (some i) else jA k r (i+1)
def qq:TK->D->Bool
 | .int k,.int k' _=>decide (k=k')
 | .str,.str _=>true
 |_,_=>false
def Br (S:List Ob):FV->Option (List D×List D)
 | .d .nilm=>some ([],[])
 | .d (.map ks es)=>some (ks,es)
 | .mp id=>match S[id]? with
  |some (.map ks es)=>some (ks,es)
  |some (.fmap ks es)=>some (ks,es)
  |_=>none
 |_=>none
def lkD (z:D) (es:List D):Option Nat->Option (D×Bool)
 |some j=>(es[j]?).map λx=>(x,true)
 |none=>some (z,false)
def BO (T:Nat->Option TI) (s:St) (t:TypeId) (x k:FV) (ok:Bool):Option FV:=
 (T t).bind λi=>(match i.kind,k with
 | .map kt et,.d kd=>(T kt).bind λki=>(T et).bind λei=>if qq ki.kind kd=true/\ei.ag=false then
  (Br s.S x).bind λm=>(jA kd m.1 0).bind λr=>(lkD (ei.zero.headD .nil) m.2 r).map λp=>if ok=true then .tup [.d p.1,.d (.bool p.2)] else .d p.1
  else none
 |_,_=>none)
section
variable {P:Program} {T:Nat->Option TI} {w:World} {I:Nat->Prop} {L:List Lay} {s:St} {a:Act}
theorem mn {t:TypeId} {K:TK} {x:D} {v:Value} (h:bx P t K) (hk:qq K x=true) (hx:ar w I x v):∃d,P.underlying t=some d/\MapKept.IsKey d v:=by
 cases K<;>cases x<;>simp[qq] at hk
 ·subst hk;simp only[ar] at hx;subst hx;exact⟨_,h,rfl⟩
 ·simp only[ar] at hx;subst hx;exact⟨_,h,trivial⟩
theorem xf {x y:D} {v u:Value} {d:TypeDesc} {b:Bool} (hd:MapKept.IsKey d v) (hx:ar w I x v) (hy:ar w I y u) (h:qt x y=some b):MapKept.IsKey d u/\(b=true↔v=u):=by
 unfold qt at h;split at h
 ·split at h
  ·rename_i k a k' b' hkk;subst hkk;cases h;simp only[ar] at hx hy;subst hx;subst hy;cases d<;>simp[MapKept.IsKey] at hd ⊢;exact hd
  ·cases h
 ·rename_i p q;cases h;simp only[ar] at hx hy;subst hx;subst hy;cases d<;>simp[MapKept.IsKey] at hd ⊢
 ·cases h
theorem iT {x:D} {v:Value} {d:TypeDesc} (hd:MapKept.IsKey d v) (hx:ar w I x v):∀ {ents:List MapEntry} {ks:List D} {i:Nat} {r:Option Nat},au w I ks (ents.map (·.key))->jA x ks i=some r->
 (r=none/\Instr.findNow d v ents i=some none)\/∃j e,r=some (i+j)/\ents[j]?=some e/\Instr.findNow d v ents i=some (some (i+j,e.val))/\e.key=v
 |[],ks,i,r,h1,h=>by
  have:ks=[]:=by
   cases ks with
   |nil=>rfl
   |cons c cs=>simp[au] at h1
  subst this;simp only[jA,Option.some.injEq] at h;exact .inl ⟨h.symm,rfl⟩
 |e::ents,ks,i,r,h1,h=>by
  cases ks with
  |nil=>simp[au] at h1
  |cons y ks=>
   simp only[List.map_cons,au,List.cons.injEq] at h1;obtain⟨_,_,⟨rfl,rfl⟩,a1,a2⟩:=h1;simp only[jA,Option.bind_eq_some_iff] at h;obtain⟨b,hb,h⟩:=h;obtain⟨k1,k2⟩:=xf hd hx a1 hb;obtain⟨r',hr',hiff⟩:=MapKept.sameNow_of_keys hd k1;have hbr:r'=b:=by
    cases b<;>cases r'<;>simp_all
   subst hbr;cases hb':r' with
   |true=>
    subst hb';simp only[if_true,Option.some.injEq] at h;exact .inr ⟨0,e,by simpa using h.symm,rfl,by simp[Instr.findNow,hr'],(k2.1 rfl).symm⟩
   |false=>
    subst hb';simp only[Bool.false_eq_true,if_false] at h;rcases iT hd hx a2 h with⟨h3,h4⟩|⟨j,e',h3,h4,h5,h6⟩
    ·exact .inl ⟨h3,by simp[Instr.findNow,hr',h4]⟩
    ·refine .inr ⟨j+1,e',by rw[h3];congr 1;omega,by simpa using h4,?_,h6⟩
     simp only[Instr.findNow,hr',h5];congr 3;omega
theorem Bq (hs:SR w I L s a) {x:FV} {v:Value} {ks es:List D} (hx:ai w I L x v) (h:Br s.S x=some (ks,es)):
 ∃ents:Array MapEntry,(v= .map none/\ents= #[]\/∃r clock,v= .map (some r)/\w.heap[r]?=some (.map ents clock)/\(I r\/r∈aB s.S L))/\au w I ks (ents.toList.map (·.key))/\au w I es (ents.toList.map (·.val)):=by
 have mem:∀ {id:Nat} {o:Ob} {l:Lay},s.S[id]?=some o->L[id]?=some l->∀b∈own o l,b∈aB s.S L:=by
  have:∀ {S:List Ob} {L:List Lay} {i:Nat} {o:Ob} {l:Lay},S[i]?=some o->L[i]?=some l->∀b∈own o l,b∈aB S L:=by
   intro S;induction S with
   |nil=>intro L i o l h;simp at h
   |cons x S ih=>
    intro L i o l h1 h2 b hb;cases L with
    |nil=>simp at h2
    |cons y L=>
     cases i with
     |zero=>simp at h1 h2;subst h1;subst h2;simp[aB,hb]
     |succ i=>simp only[aB,List.mem_append];exact .inr (ih (by simpa using h1) (by simpa using h2) b hb)
  intro id o l h1 h2;exact this h1 h2
 unfold Br at h;split at h
 ·cases h;simp only[ai,ar] at hx;exact⟨#[],.inl ⟨hx,rfl⟩,by simp[au],by simp[au]⟩
 ·cases h;simp only[ai,ar] at hx;obtain⟨r,ents,clock,hv,hi,hr,_,h1,h2⟩:=hx;exact⟨ents,.inr ⟨r,clock,hv,hr,.inl hi⟩,h1,h2⟩
 ·rename_i id;simp only[ai] at hx;obtain⟨r,hl,rfl⟩:=hx;split at h
  ·rename_i ks' es' hS;cases h;obtain⟨r',ents,clock,he,hr,_,h1,h2⟩:=hs.obs _ _ _ hS hl;cases he;exact⟨ents,.inr ⟨r,clock,rfl,hr,.inr (mem hS hl r (by simp[own]))⟩,h1,h2⟩
  ·rename_i ks' es' hS;cases h;obtain⟨r',he,hd⟩:=hs.obs _ _ _ hS hl;cases he;simp only[ar] at hd;obtain⟨r2,ents,clock,e2,hi,hr,_,h1,h2⟩:=hd;cases e2;exact⟨ents,.inr ⟨r,clock,rfl,hr,.inl hi⟩,h1,h2⟩
  ·cases h
 ·cases h
theorem BN (hT:aP P T) (hs:SR w I L s a) {t:TypeId} {x k:FV} {ok:Bool} {vx vk:Value} {z:FV} (hx:ai w I L x vx) (hk:ai w I L k vk) (h:BO T s t x k ok=some z):
 ∃v,(∀w':World,(∀b,(I b\/b∈aB s.S L)->w'.heap[b]?=w.heap[b]?)->(Instr.lookup t vx vk ok).run P w'= .ok v w')/\ai w I L z v:=by
 unfold BO at h;simp only[Option.bind_eq_some_iff] at h;obtain⟨i,hi,h⟩:=h;split at h
 ·rename_i kt et kd hkd;simp only[Option.bind_eq_some_iff] at h;obtain⟨ki,hki,ei,hei,h⟩:=h;split at h
  ·rename_i hcond;simp only[Option.bind_eq_some_iff,Option.map_eq_some_iff] at h;obtain⟨⟨ks,es⟩,hm,r,hr,p,hp,rfl⟩:=h;simp only[ai] at hk;have hti:=(hT _ _ hi).kind;rw[hkd] at hti;simp only[bx] at hti;obtain⟨d,hd,hkey⟩:=mn (hT _ _ hki).kind hcond.1 hk;obtain⟨ents,hv,h1,h2⟩:=Bq hs hx hm;have hes:∀w':World,(∀b,(I b\/b∈aB s.S L)->w'.heap[b]?=w.heap[b]?)->∃zv,(vx= .map none/\ents= #[]\/∃r clock,vx= .map (some r)/\w'.heap[r]?=some (.map ents clock))/\zv=():=by
    intro w' hw';refine⟨(),?_,rfl⟩;rcases hv with hv|⟨r,clock,e1,e2,e3⟩
    ·exact .inl hv
    ·exact .inr ⟨r,clock,e1,(hw' r e3).trans e2⟩
   have hres:∃v b,ai w I L (.d p.1) v/\p.2=b/\∀w':World,(∀b,(I b\/b∈aB s.S L)->w'.heap[b]?=w.heap[b]?)->(Instr.lookup t vx vk ok).run P w'= .ok (if ok=true then .tuple #[v,.bool b] else v) w':=by
    rcases iT hkey hk h1 hr with⟨rfl,hf⟩|⟨j,e,rfl,he,hf,_⟩
    ·simp only[lkD,Option.some.injEq] at hp;subst hp;obtain⟨z0,d0,hz,hzero,hd0⟩:=(hT _ _ hei).zero1 (w:=w) (I:=I) hcond.2;refine⟨z0,false,by simp only[ai,hzero,List.headD_cons];exact hd0,rfl,λw' hw'=>?_⟩
     obtain⟨z0',d0',hz',hzero',_⟩:=(hT _ _ hei).zero1 (w:=w') (I:=I) hcond.2;have hzz:z0'=z0:=by
      have e1:(zeroValue et).run P w'= .ok z0 w':=by
       obtain⟨j,z,hj,h1',_,h3,h4,h5⟩:=(hT _ _ hei).info;have a1:(zeroValue et).run P w= .ok z w:=by simp[Go.zeroValue,typeInfo,hj,h3]
       rw[a1] at hz;cases hz;simp[Go.zeroValue,typeInfo,hj,h3]
      rw[e1] at hz';cases hz';rfl
     subst hzz;obtain⟨_,hc,_⟩:=hes w' hw';rcases hc with⟨rfl,rfl⟩|⟨r,clock,rfl,hb⟩
     ·cases ok<;>simp[Instr.lookup,run_underlying hti,MapKept.run_checkKey hd hkey,MapKept.run_findKey hd hf,hz',Result.andThen]
     ·cases ok<;>simp[Instr.lookup,run_underlying hti,MapKept.run_getObj_map hb,MapKept.run_checkKey hd hkey,MapKept.run_findKey hd hf,hz',Result.andThen]
    ·simp only[Nat.zero_add] at hp hf;simp only[lkD,Option.map_eq_some_iff] at hp;obtain⟨y,hy,rfl⟩:=hp;obtain⟨u,hu,hd2⟩:=h2.get j y hy;have hue:u=e.val:=by rw[List.getElem?_map,he] at hu;exact(Option.some.inj hu).symm
     subst hue;refine⟨e.val,true,by simp only[ai];exact hd2,rfl,λw' hw'=>?_⟩
     obtain⟨_,hc,_⟩:=hes w' hw';rcases hc with⟨rfl,rfl⟩|⟨r,clock,rfl,hb⟩
     ·simp at he
     ·cases ok<;>simp[Instr.lookup,run_underlying hti,MapKept.run_getObj_map hb,MapKept.run_checkKey hd hkey,MapKept.run_findKey hd hf,Result.andThen]
   obtain⟨v,b,hv1,rfl,hrun⟩:=hres;refine⟨_,hrun,?_⟩;cases ok
   ·simpa using hv1
   ·simp only[if_true,ai,ap,ar];simp only[ai] at hv1;exact⟨[v,.bool p.2],by simp,v,_,rfl,hv1,_,_,rfl,rfl,rfl⟩
  ·cases h
 ·cases h
end
end Go.Proofs.YtlhmejigmokbhaaGreatDoor.Pay
