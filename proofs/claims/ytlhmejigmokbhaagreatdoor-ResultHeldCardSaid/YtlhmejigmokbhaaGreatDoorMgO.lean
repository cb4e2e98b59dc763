/- The texts PayP, StA, StN, SpF, SpG, GaB, one behind the other. No statement of the seed is proved here. -/
import Derived.Test.YtlhmejigmokbhaaGreatDoorMgN
import Derived.Shelf.Strconv.Itoa3
import Derived.Shelf.Strconv.ErrVarAll
import Derived.Lib.ItoaNum
import Derived.Lib.Mul64
import Derived.Laws.Bits64b
namespace Go.Proofs.YtlhmejigmokbhaaGreatDoor.Pay
open Go Go.Proofs
set_option linter.unusedVariables false
set_option linter.unusedSimpArgs false
section
variable {id:Nat} {ops:Array Oper} {c:Code} {s s':St} {Q:Exit->St->Prop}
theorem qR (h:go tab ops ops.size ops.toList s=some ([],s')) (k:aj Tryz.prog c Q .normal s'):WpC Tryz.prog (.seq (.region id ops false) c) s Q:=WpC.seq (WpC.ops tabOk h rfl k)
theorem qr (h:go tab ops ops.size ops.toList s=some ([],s')) (k:Q .normal s'):WpC Tryz.prog (.region id ops false) s Q:=WpC.ops tabOk h rfl k
end
@[reducible] def dI (n:Int):D:= .int .i64 n
theorem KL {α:Type} (p:α->Bool) {l:List α} {k:Nat} (h:k<l.length):(l.take (k+1)).all p=((l.take k).all p&&p l[k]):=by
 rw[List.take_add_one,List.getElem?_eq_getElem h];simp only[Option.toList_some,List.all_append,List.all_cons,List.all_nil,Bool.and_true]
theorem cf {α:Type} (f:α->Bool) {l:List α} {k:Nat} (h:k<l.length):(l.take (k+1)).any f=((l.take k).any f||f l[k]):=by
 rw[List.take_add_one,List.getElem?_eq_getElem h];simp only[Option.toList_some,List.any_append,List.any_cons,List.any_nil,Bool.or_false]
def aA (g:Nat->Int) (n:Nat):List D:=(List.range n).map λi=>dI (g i)
def upd (g:Nat->Int) (i:Nat) (x:Int):Nat->Int:=λj=>if j=i then x else g j
@[simp] theorem G6 (g:Nat->Int) (n:Nat):(aA g n).length=n:=by simp[aA]
@[simp] theorem AY (g:Nat->Int) (n i:Nat) (h:i<(aA g n).length):(aA g n)[i]=dI (g i):=by simp[aA]
theorem ez {g:Nat->Int} {n i:Nat} (h:i<n):(aA g n)[i]?=some (dI (g i)):=by
 rw[List.getElem?_eq_getElem (by simpa using h),AY]
@[simp] theorem G5 (g:Nat->Int) (n i:Nat) (x:Int):(aA g n).set i (.int .i64 x)=aA (upd g i x) n:=by
 apply List.ext_getElem?;intro j;rw[List.getElem?_set];by_cases hj:j<n
 ·by_cases hij:i=j
  ·subst hij;rw[if_pos rfl,if_pos (by simpa using hj),ez hj,show upd g i x i=x from if_pos rfl]
  ·rw[if_neg hij,ez hj,ez hj,show upd g i x j=g j from if_neg (Ne.symm hij)]
 ·rw[List.getElem?_eq_none (by simp;omega),List.getElem?_eq_none (by simp;omega)]
  split
  ·split
   ·rename_i h1 h2;simp at h2;omega
   ·rfl
  ·rfl
theorem fH {g h:Nat->Int} {n:Nat} (e:∀i,i<n->g i=h i):aA g n=aA h n:=by
 unfold aA;exact List.map_congr_left λi hi=>by rw[e i (by simpa using hi)]
theorem AX (l:List Int):l.map dI=aA (λi=>(l[i]?).getD 0) l.length:=by
 apply List.ext_getElem?;intro j;by_cases hj:j<l.length
 ·rw[ez hj,List.getElem?_map,List.getElem?_eq_getElem hj];rfl
 ·rw[List.getElem?_eq_none (by simp;omega),List.getElem?_eq_none (by simp;omega)]
theorem AL {i j h:Nat} (hh:(i+j)/2=h) (hb:i+j<=4000000000):IntKind.i64.wrap ((IntKind.u64.wrap (IntKind.i64.wrap ((i:Int)+j))).fdiv (2^min 1 IntKind.u64.bits))=(h:Int):=by
 have h1:IntKind.i64.wrap ((i:Int)+j)=i+j:=am (by omega) (by omega)
 have h2:IntKind.u64.wrap ((i:Int)+j)=i+j:=by simp[IntKind.wrap,IntKind.bits,IntKind.signed];omega
 rw[h1,h2];have:((2:Int)^min 1 IntKind.u64.bits)=2:=by decide
 rw[this,Int.fdiv_eq_ediv_of_nonneg _ (by omega),am (by omega) (by omega)]
 omega
section
variable {ops all:Array Oper} {s s' s1:St} {id:Nat} {c x y:Code} {Q:Exit->St->Prop} {rest rest' l l':List Oper} {o:Oper} {z:Operand}
theorem zR (k:aj Tryz.prog c Q .normal s') (h:go tab ops ops.size ops.toList s=some ([],s'):=by simp -implicitDefEqProofs[H]<;>rfl):WpC Tryz.prog (.seq (.region id ops false) c) s Q:=qR h k
theorem zr (k:Q .normal s') (h:go tab ops ops.size ops.toList s=some ([],s'):=by simp -implicitDefEqProofs[H]<;>rfl):WpC Tryz.prog (.region id ops false) s Q:=qr h k
theorem zO (n:Nat) (k:WpO Tryz.prog all rest' s' Q) (h:go tab all n rest s=some (rest',s'):=by simp -implicitDefEqProofs[H]<;>first|exact⟨rfl,rfl⟩|rfl):WpO Tryz.prog all rest s Q:=WpO.run tabOk n h k
theorem zS {r:Option FV} {b:Bool} (d:Nat) (ht:b=true->WpO Tryz.prog all rest {s with env:=(d,.d (.bool true))::s.env} Q) (hf:b=false->WpO Tryz.prog all rest {s with env:=(d,.d (.bool false))::s.env} Q)
 (hb0:get s.env d=r:=by simp -implicitDefEqProofs[H]<;>rfl) (hr:r=some (.d (.bool b)):=by rfl):WpO Tryz.prog all rest s Q:=WpO.splitB d hb0 hr ht hf
theorem zC {r:Option Bool} {b:Bool} (ht:b=true->WpC Tryz.prog x s Q) (hf:b=false->WpC Tryz.prog y s Q) (hc:evB s z=r:=by simp -implicitDefEqProofs[H]<;>rfl) (hr:r=some b:=by rfl):WpC Tryz.prog (.cond z x y) s Q:=WpC.condR hc hr ht hf
theorem zT (h:WpC Tryz.prog x s Q) (hc:evB s z=some true:=by simp -implicitDefEqProofs[H]<;>rfl):WpC Tryz.prog (.cond z x y) s Q:=WpC.condT hc h
theorem zF (h:WpC Tryz.prog y s Q) (hc:evB s z=some false:=by simp -implicitDefEqProofs[H]<;>rfl):WpC Tryz.prog (.cond z x y) s Q:=WpC.condF hc h
theorem zD (p:Prop) [Decidable p] (ht:p->WpC Tryz.prog x s Q) (hf:¬p->WpC Tryz.prog y s Q) (hc:evB s z=some (decide p):=by simp -implicitDefEqProofs[H]):WpC Tryz.prog (.cond z x y) s Q:=WpC.condD p hc ht hf
theorem zL (p:Prop) [Decidable p] (ht:p->WpC Tryz.prog x s Q) (hf:¬p->WpC Tryz.prog y s Q) (hc:evB s z=some (decide p):=by simp -implicitDefEqProofs[H]<;>omega):WpC Tryz.prog (.cond z x y) s Q:=WpC.condD p hc ht hf
variable {fx:Operand} {args:Array Operand} {ts:Array TypeId} {g:FuncId} {caps xs cargs:List FV} {v:FV}
theorem zG (hc:af Tryz.prog g) (hcall:ah Tryz.prog g cargs v) (k:WpO Tryz.prog all rest s1 Q) (h:bh all s o=some true:=by simp) (ho:o.op= .call {callee:= .value fx,args,argTypes:=ts}:=by rfl)
 (hf:evX s fx=some (.fn g caps):=by simp -implicitDefEqProofs[H]<;>rfl) (hx:evXs s args.toList=some xs:=by simp -implicitDefEqProofs[H]<;>rfl) (hv:aI false s.S (xs++caps)=some cargs:=by simp -implicitDefEqProofs[H]<;>rfl) (hp:s.pin<=s.S.length:=by simp) (hid:bG v=[]:=by rfl)
 (hset:aY s o.dst v=some s1:=by simp -implicitDefEqProofs[H]<;>rfl):WpO Tryz.prog all (o::rest) s Q:=WpO.data h ho hf hx hv hc hp hcall hid hset k
theorem zB (hc:af Tryz.prog g) (hcall:ah Tryz.prog g cargs v) (k:WpO Tryz.prog all rest s1 Q) (h:bh all s o=some true:=by simp) (ho:o.op= .call {callee:= .value fx,args,argTypes:=ts}:=by rfl)
 (hf:evX s fx=some (.fn g caps):=by simp -implicitDefEqProofs[H]<;>rfl) (hx:evXs s args.toList=some xs:=by simp -implicitDefEqProofs[H]<;>rfl) (hv:aI true s.S (xs++caps)=some cargs:=by simp -implicitDefEqProofs[H]<;>rfl) (hfl:jC v=true:=by rfl)
 (hset:aY s o.dst v=some s1:=by simp -implicitDefEqProofs[H]<;>rfl):WpO Tryz.prog all (o::rest) s Q:=WpO.lend h ho hf hx hv hc hcall hfl hset k
theorem zP {cS Sx S0:List Ob} {r0:FV} (perm:List Nat) (hc:af Tryz.prog g) (hcall:WpF Tryz.prog g cargs cS λr S=>r=r0/\S=S0) (k:WpO Tryz.prog all rest s' Q) (hw:bh all s o=some true:=by simp) (ho:o.op= .call {callee:= .value fx,args,argTypes:=ts}:=by rfl)
 (hf:evX s fx=some (.fn g caps):=by simp -implicitDefEqProofs[H]<;>rfl) (hx:evXs s args.toList=some xs:=by simp -implicitDefEqProofs[H]<;>rfl) (hp:s.pin<=s.S.length:=by simp) (hn:perm.Nodup:=by simp) (hlt:∀i∈perm,i<s.S.length:=by simp)
 (ha:eb s.S perm (xs++caps) cargs:=by simp -implicitDefEqProofs[H]) (hS:jn s.S perm=some Sx:=by(simp;rfl)) (h2:aF (σ0 s.S.length perm) cS=Sx:=by simp -implicitDefEqProofs[H])
 (hset:aY {s with S:=bI s.S perm (aF (σ1 s.S.length perm) (S0.take perm.length))++aF (σ1 s.S.length perm) (S0.drop perm.length)} o.dst (ren (σ1 s.S.length perm) r0)=some s':=by simp -implicitDefEqProofs[H]<;>rfl):WpO Tryz.prog all (o::rest) s Q:=
 WpO.callP perm hw ho hf hx hc hp hn hlt ha hS h2 hcall λr S1 hr=>by
  obtain⟨rfl,rfl⟩:=hr;exact⟨s',hset,k⟩
variable {nid nid':Nat} {tr tr':List TrC} {K:St->List TrC->Prop}
theorem yO (n:Nat) (k:DrO Tryz.prog tab ops l' s' nid' tr' K) (h:rY tab ops [] n l s nid tr=some (l',s',nid',tr'):=by simp -implicitDefEqProofs[H]<;>first|exact⟨rfl,rfl,rfl,rfl⟩|rfl):DrO Tryz.prog tab ops l s nid tr K:=DrO.run (fz:=[]) n h k
theorem yS {r:Option FV} {b:Bool} (d:Nat) (ht:b=true->DrO Tryz.prog tab ops l s nid tr K) (hf:b=false->DrO Tryz.prog tab ops l s nid tr K) (hb0:get s.env d=r:=by simp -implicitDefEqProofs[H]<;>rfl) (hr:r=some (.d (.bool b)):=by rfl):DrO Tryz.prog tab ops l s nid tr K:=DrO.splitB d hb0 hr ht hf
theorem yG (hc:af Tryz.prog g) (hcall:WpF Tryz.prog g cargs [] λr S1=>r=v/\S1=[]) (k:DrO Tryz.prog tab ops l s1 nid (⟨tr.length,[],[],nid,cw s.S (xs++caps),[],true⟩::tr) K) (h:bh ops s o=some true:=by simp[H]) (ho:o.op= .call {callee:= .value fx,args,argTypes:=ts}:=by rfl)
 (hf:evX s fx=some (.fn g caps):=by simp -implicitDefEqProofs[H]<;>rfl) (hx:evXs s args.toList=some xs:=by simp -implicitDefEqProofs[H]<;>rfl) (hv:aI false s.S (xs++caps)=some cargs:=by simp -implicitDefEqProofs[H]<;>rfl) (hid:bG v=[]:=by rfl)
 (hset:aY s o.dst v=some s1:=by simp -implicitDefEqProofs[H]<;>rfl):DrO Tryz.prog tab ops (o::l) s nid tr K:=DrO.data h ho hf hx hv hc hcall hid hset k
end
theorem zE {T:Nat->Option TI} {s:St} {res:List ResultVar} {Q:FV->Prop} {xs ys:List FV} (hq:Q (fK ys)) (h1:ft T s res=some xs:=by simp -implicitDefEqProofs[H]<;>rfl) (h2:aI true s.S xs=some ys:=by simp -implicitDefEqProofs[H]<;>rfl):Pay.retD T res Q .ret s:=dB h1 h2 hq
theorem zN {p q:Prop} (h:p) (e:p=q:=by first|(simp only[dT,dF];rfl)|(simp;rfl)|rfl):q:=e▸h
end Go.Proofs.YtlhmejigmokbhaaGreatDoor.Pay
namespace Go.Proofs.YtlhmejigmokbhaaGreatDoor.Pay
open Go Go.RowKit Go.Shelf Go.Proofs
set_option linter.unusedVariables false
set_option linter.unusedSimpArgs false
theorem ah.of {P:Program} {f:FuncId} {args:List FV} {r:FV} (h:∀w I vs,Imm w I->ap w I [] args vs->Calls P f vs.toArray w λe w'=>∃v,e= .returned v/\Below w.heap.size w w'/\
 ∃B:Nat->Prop,(∀b,B b->w.heap.size<=b/\b<w'.heap.size)/\ai w' (λb=>I b\/B b) [] r v):ah P f args r:=λw I L vs ha hO=>by
 have hL:L=[]:=List.eq_nil_of_length_eq_zero hO.len;subst hL;refine(h w I vs hO.imm ha).mono λe w' ⟨v,he,hb,B,hB,hv⟩=>?_
 have hk:∀b,I b->w'.heap[b]?=w.heap[b]?:=λb hb'=>hb.block b (hO.imm b hb')
 refine⟨r,v,[],λb=>I b\/B b,[],he,⟨rfl,rfl⟩,hv,⟨rfl,λi o l h=>by simp at h,by simp[aB],λb hb=>by simp[aB] at hb,(hO.imm.mono hk hb.size).more (λb h=> .inl h) λb h=>?_⟩,
  ⟨hb.os,hb.tape,hb.output,hb.size,λb h1 _=>hb.block b h1,λb h=> .inl h,λb h=>?_,λb h=>by simp[aB] at h⟩,Nat.le_refl _,λi h=>by simp at h⟩
 ·rcases h with h|h
  ·exact Nat.lt_of_lt_of_le (hO.imm b h) hb.size
  ·exact(hB b h).2
 ·rcases h with h|h
  ·exact .inl h
  ·exact .inr (.inr (hB b h).1)
theorem ah.of0 {P:Program} {f:FuncId} {args:List FV} {r:FV} (h:∀w I vs,Imm w I->ap w I [] args vs->Calls P f vs.toArray w λe w'=>∃v,e= .returned v/\Below w.heap.size w w'/\∀I',ai w' I' [] r v):ah P f args r:=
 ah.of λw I vs h1 h2=>(h w I vs h1 h2).mono λe w' ⟨v,e1,e2,e3⟩=>⟨v,e1,e2,λ_=>False,λb hb=>hb.elim,e3 _⟩
theorem Imm.on {w:World} {I:Nat->Prop} (hI:Imm w I) {n:Nat} {x:GV} {i:Nat} (h:gT[i]?=some (n,x)):x.on w.heap[n]?:=(hI.gl (n,x) (List.mem_of_getElem? h)).2
theorem Bz {w:World} {I:Nat->Prop} (hI:Imm w I):Lib.TabIs Tryz.prog w "internal/strconv.uint64pow10" .u64 Lib.pow10Tab:=by
 obtain⟨t,fr,h⟩:=hI.on (n:=7) (x:= .tab .u64 Lib.pow10Tab) (i:=3) (by kernel_rfl)
 have hg:Tryz.prog.globalNamed "internal/strconv.uint64pow10" =some 7:=by kernel_rfl
 simp only[Lib.TabIs,World.var?,hg,Option.bind_some,h]
theorem xj {w:World} {I:Nat->Prop} (hI:Imm w I):∃tp p,w.var? Tryz.prog "strconv.ErrSyntax" =some #[.iface tp p]:=by
 obtain⟨tp,p,t,fr,h⟩:=hI.on (n:=3) (x:= .iface) (i:=1) rfl;have hg:Tryz.prog.globalNamed "strconv.ErrSyntax" =some 3:=by kernel_rfl
 exact⟨tp,p,by simp only[World.var?,hg,Option.bind_some,h]⟩
theorem By {w:World} {I:Nat->Prop} (hI:Imm w I):∃tp p,w.var? Tryz.prog "strconv.ErrRange" =some #[.iface tp p]:=by
 obtain⟨tp,p,t,fr,h⟩:=hI.on (n:=4) (x:= .iface) (i:=2) rfl;have hg:Tryz.prog.globalNamed "strconv.ErrRange" =some 4:=by kernel_rfl
 exact⟨tp,p,by simp only[World.var?,hg,Option.bind_some,h]⟩
theorem xl {w:World} {I:Nat->Prop} (hI:Imm w I):∃m,w.cell? ⟨2,0,none⟩=some (.int .i64 m):=by
 obtain⟨m,t,fr,h⟩:=hI.on (n:=2) (x:= .int) (i:=0) rfl;exact⟨m,by rw[Lib.cell_of_heap h];rfl⟩
def oX:Go.Shelf.Ren:=⟨λ|171=>153|243=>188|246=>202|283=>209|284=>210|285=>211|286=>212|129=>139|317=>214|318=>215|319=>216|320=>217|337=>219|338=>220|n=>n,λ|3=>3|9=>9|2=>2|4=>4|171=>292|0=>0|53=>53|37=>233|5=>5|173=>294|212=>298|51=>223|20=>20|213=>299|46=>180|232=>300|233=>301|n=>n,λ|17=>7|18=>8|19=>9|n=>n⟩
theorem xa:Go.Proofs.LaysM.n171 Tryz.prog oX where
 mixed:=by kernel_rfl
 f129:=Tryz.func139.trans (congrArg some (by kernel_rfl))
 f171:=Tryz.func153.trans (congrArg some (by kernel_rfl))
 f243:=Tryz.func188.trans (congrArg some (by kernel_rfl))
 f246:=Tryz.func202.trans (congrArg some (by kernel_rfl))
 f283:=Tryz.func209.trans (congrArg some (by kernel_rfl))
 f284:=Tryz.func210.trans (congrArg some (by kernel_rfl))
 f285:=Tryz.func211.trans (congrArg some (by kernel_rfl))
 f286:=Tryz.func212.trans (congrArg some (by kernel_rfl))
 f317:=Tryz.func214.trans (congrArg some (by kernel_rfl))
 f318:=Tryz.func215.trans (congrArg some (by kernel_rfl))
 f319:=Tryz.func216.trans (congrArg some (by kernel_rfl))
 f320:=Tryz.func217.trans (congrArg some (by kernel_rfl))
 f337:=Tryz.func219.trans (congrArg some (by kernel_rfl))
 f338:=Tryz.func220.trans (congrArg some (by kernel_rfl))
 t0:=Tryz.underlying0
 a0:=Tryz.isAgg0
 z0:=Tryz.sizeOf0
 v0:=Tryz.zeroValue0
 t2:=Tryz.underlying2
 a2:=Tryz.isAgg2
 z2:=Tryz.sizeOf2
 v2:=Tryz.zeroValue2
 t3:=Tryz.underlying3
 a3:=Tryz.isAgg3
 z3:=Tryz.sizeOf3
 v3:=Tryz.zeroValue3
 t4:=Tryz.underlying4
 a4:=Tryz.isAgg4
 z4:=Tryz.sizeOf4
 v4:=Tryz.zeroValue4
 t5:=Tryz.underlying5
 a5:=Tryz.isAgg5
 z5:=Tryz.sizeOf5
 v5:=Tryz.zeroValue5
 t9:=Tryz.underlying9
 a9:=Tryz.isAgg9
 z9:=Tryz.sizeOf9
 v9:=Tryz.zeroValue9
 t20:=Tryz.underlying20
 a20:=Tryz.isAgg20
 z20:=Tryz.sizeOf20
 v20:=Tryz.zeroValue20
 t37:=Tryz.underlying233
 a37:=Tryz.isAgg233
 z37:=Tryz.sizeOf233
 v37:=Tryz.zeroValue233
 t46:=Tryz.underlying180
 a46:=Tryz.isAgg180
 z46:=Tryz.sizeOf180
 v46:=Tryz.zeroValue180
 t51:=Tryz.underlying223
 a51:=Tryz.isAgg223
 z51:=Tryz.sizeOf223
 v51:=Tryz.zeroValue223
 t53:=Tryz.underlying53
 a53:=Tryz.isAgg53
 z53:=Tryz.sizeOf53
 v53:=Tryz.zeroValue53
 t171:=Tryz.underlying292
 a171:=Tryz.isAgg292
 z171:=Tryz.sizeOf292
 v171:=Tryz.zeroValue292
 t173:=Tryz.underlying294
 a173:=Tryz.isAgg294
 z173:=Tryz.sizeOf294
 v173:=Tryz.zeroValue294
 t212:=Tryz.underlying298
 a212:=Tryz.isAgg298
 z212:=Tryz.sizeOf298
 v212:=Tryz.zeroValue298
 t213:=Tryz.underlying299
 a213:=Tryz.isAgg299
 z213:=Tryz.sizeOf299
 t232:=Tryz.underlying300
 a232:=Tryz.isAgg300
 z232:=Tryz.sizeOf300
 v232:=Tryz.zeroValue300
 t233:=Tryz.underlying301
 a233:=Tryz.isAgg301
 z233:=Tryz.sizeOf301
 v233:=Tryz.zeroValue301
 g17:=by kernel_rfl
 g18:=by kernel_rfl
 g19:=by kernel_rfl
 i0:=by kernel_rfl
 i2:=by kernel_rfl
 i3:=by kernel_rfl
 i4:=by kernel_rfl
 i5:=by kernel_rfl
 i9:=by kernel_rfl
 i20:=by kernel_rfl
 i37:=by kernel_rfl
 i46:=by kernel_rfl
 i51:=by kernel_rfl
 i53:=by kernel_rfl
 i171:=by kernel_rfl
 i173:=by kernel_rfl
 i212:=by kernel_rfl
 i232:=by kernel_rfl
 i233:=by kernel_rfl
 m17:=by kernel_rfl
 m18:=by kernel_rfl
 m19:=by kernel_rfl
theorem oZ (n:Int) (h0: -9223372036854775808<=n) (h1:n<=9223372036854775807):ah Tryz.prog 153 [.d (.int .i64 n)] (.d (.str (Lib.itoa n))):=ah.of0 λw I vs hI ha=>by
 simp only[ap,ai,ar] at ha;obtain⟨_,_,rfl,rfl,rfl⟩:=ha;refine(Any.strconv_Itoa xa n h0 h1 w (Bz hI)).mono ?_;rintro e w' ⟨rfl,k,os,rfl⟩;exact⟨_,rfl,⟨rfl,rfl,rfl,by simp[Sort.grow],λb hb=>by
  show((w.drewN k).heap++os)[b]?=_
  rw[Array.getElem?_append_left (by exact hb)]
  rfl⟩,λ_=>by simp only[ai,ar]⟩
def eH (l:List UInt8):Int×Bool:=match Lib.atoiAll l with
 | .ok v=>(v,true)
 | .range=>(Lib.atoiSat l,false)
 |_=>(0,false)
def oY:Go.Shelf.Ren:=⟨λ|172=>108|244=>145|245=>146|247=>177|279=>178|280=>179|281=>180|282=>181|287=>194|316=>195|171=>153|205=>196|321=>206|322=>207|243=>188|246=>202|283=>209|284=>210|285=>211|286=>212|129=>139|317=>214|318=>215|319=>216|320=>217|337=>219|338=>220|n=>n,λ|9=>9|3=>3|75=>190|76=>191|4=>4|5=>5|167=>257|37=>233|0=>0|85=>258|2=>2|168=>260|53=>53|175=>267|46=>180|210=>271|127=>263|145=>289|143=>287|21=>21|171=>292|173=>294|212=>298|51=>223|20=>20|213=>299|232=>300|233=>301|80=>239|n=>n,λ|15=>3|16=>4|17=>7|18=>8|19=>9|n=>n⟩
theorem mm:Go.Proofs.LaysC.n172 Tryz.prog oY where
 mixed:=by kernel_rfl
 f129:=Tryz.func139.trans (congrArg some (by kernel_rfl))
 f171:=Tryz.func153.trans (congrArg some (by kernel_rfl))
 f172:=Tryz.func108.trans (congrArg some (by kernel_rfl))
 f205:=Tryz.func196.trans (congrArg some (by kernel_rfl))
 f243:=Tryz.func188.trans (congrArg some (by kernel_rfl))
 f244:=Tryz.func145.trans (congrArg some (by kernel_rfl))
 f245:=Tryz.func146.trans (congrArg some (by kernel_rfl))
 f246:=Tryz.func202.trans (congrArg some (by kernel_rfl))
 f247:=Tryz.func177.trans (congrArg some (by kernel_rfl))
 f279:=Tryz.func178.trans (congrArg some (by kernel_rfl))
 f280:=Tryz.func179.trans (congrArg some (by kernel_rfl))
 f281:=Tryz.func180.trans (congrArg some (by kernel_rfl))
 f282:=Tryz.func181.trans (congrArg some (by kernel_rfl))
 f283:=Tryz.func209.trans (congrArg some (by kernel_rfl))
 f284:=Tryz.func210.trans (congrArg some (by kernel_rfl))
 f285:=Tryz.func211.trans (congrArg some (by kernel_rfl))
 f286:=Tryz.func212.trans (congrArg some (by kernel_rfl))
 f287:=Tryz.func194.trans (congrArg some (by kernel_rfl))
 f316:=Tryz.func195.trans (congrArg some (by kernel_rfl))
 f317:=Tryz.func214.trans (congrArg some (by kernel_rfl))
 f318:=Tryz.func215.trans (congrArg some (by kernel_rfl))
 f319:=Tryz.func216.trans (congrArg some (by kernel_rfl))
 f320:=Tryz.func217.trans (congrArg some (by kernel_rfl))
 f321:=Tryz.func206.trans (congrArg some (by kernel_rfl))
 f322:=Tryz.func207.trans (congrArg some (by kernel_rfl))
 f337:=Tryz.func219.trans (congrArg some (by kernel_rfl))
 f338:=Tryz.func220.trans (congrArg some (by kernel_rfl))
 t0:=Tryz.underlying0
 a0:=Tryz.isAgg0
 z0:=Tryz.sizeOf0
 v0:=Tryz.zeroValue0
 t2:=Tryz.underlying2
 a2:=Tryz.isAgg2
 z2:=Tryz.sizeOf2
 v2:=Tryz.zeroValue2
 t3:=Tryz.underlying3
 a3:=Tryz.isAgg3
 z3:=Tryz.sizeOf3
 v3:=Tryz.zeroValue3
 t4:=Tryz.underlying4
 a4:=Tryz.isAgg4
 z4:=Tryz.sizeOf4
 v4:=Tryz.zeroValue4
 t5:=Tryz.underlying5
 a5:=Tryz.isAgg5
 z5:=Tryz.sizeOf5
 v5:=Tryz.zeroValue5
 t9:=Tryz.underlying9
 a9:=Tryz.isAgg9
 z9:=Tryz.sizeOf9
 v9:=Tryz.zeroValue9
 t20:=Tryz.underlying20
 a20:=Tryz.isAgg20
 z20:=Tryz.sizeOf20
 v20:=Tryz.zeroValue20
 t21:=Tryz.underlying21
 a21:=Tryz.isAgg21
 z21:=Tryz.sizeOf21
 v21:=Tryz.zeroValue21
 t37:=Tryz.underlying233
 a37:=Tryz.isAgg233
 z37:=Tryz.sizeOf233
 v37:=Tryz.zeroValue233
 t46:=Tryz.underlying180
 a46:=Tryz.isAgg180
 z46:=Tryz.sizeOf180
 v46:=Tryz.zeroValue180
 t51:=Tryz.underlying223
 a51:=Tryz.isAgg223
 z51:=Tryz.sizeOf223
 v51:=Tryz.zeroValue223
 t53:=Tryz.underlying53
 a53:=Tryz.isAgg53
 z53:=Tryz.sizeOf53
 v53:=Tryz.zeroValue53
 t75:=Tryz.underlying190
 a75:=Tryz.isAgg190
 z75:=Tryz.sizeOf190
 v75:=Tryz.zeroValue190
 t76:=Tryz.underlying191
 a76:=Tryz.isAgg191
 z76:=Tryz.sizeOf191
 v76:=Tryz.zeroValue191
 t85:=Tryz.underlying258
 a85:=Tryz.isAgg258
 z85:=Tryz.sizeOf258
 v85:=Tryz.zeroValue258
 t127:=Tryz.underlying263
 a127:=Tryz.isAgg263
 z127:=Tryz.sizeOf263
 v127:=Tryz.zeroValue263
 t143:=Tryz.underlying287
 a143:=Tryz.isAgg287
 z143:=Tryz.sizeOf287
 v143:=Tryz.zeroValue287
 t145:=Tryz.underlying289
 a145:=Tryz.isAgg289
 z145:=Tryz.sizeOf289
 v145:=Tryz.zeroValue289
 t167:=Tryz.underlying257
 a167:=Tryz.isAgg257
 z167:=Tryz.sizeOf257
 v167:=Tryz.zeroValue257
 t168:=Tryz.underlying260
 a168:=Tryz.isAgg260
 z168:=Tryz.sizeOf260
 v168:=Tryz.zeroValue260
 t171:=Tryz.underlying292
 a171:=Tryz.isAgg292
 z171:=Tryz.sizeOf292
 v171:=Tryz.zeroValue292
 t173:=Tryz.underlying294
 a173:=Tryz.isAgg294
 z173:=Tryz.sizeOf294
 v173:=Tryz.zeroValue294
 t175:=Tryz.underlying267
 a175:=Tryz.isAgg267
 z175:=Tryz.sizeOf267
 v175:=Tryz.zeroValue267
 t210:=Tryz.underlying271
 a210:=Tryz.isAgg271
 z210:=Tryz.sizeOf271
 v210:=Tryz.zeroValue271
 t212:=Tryz.underlying298
 a212:=Tryz.isAgg298
 z212:=Tryz.sizeOf298
 v212:=Tryz.zeroValue298
 t213:=Tryz.underlying299
 a213:=Tryz.isAgg299
 z213:=Tryz.sizeOf299
 t232:=Tryz.underlying300
 a232:=Tryz.isAgg300
 z232:=Tryz.sizeOf300
 v232:=Tryz.zeroValue300
 t233:=Tryz.underlying301
 a233:=Tryz.isAgg301
 z233:=Tryz.sizeOf301
 v233:=Tryz.zeroValue301
 g15:=by kernel_rfl
 g16:=by kernel_rfl
 g17:=by kernel_rfl
 g18:=by kernel_rfl
 g19:=by kernel_rfl
 t80:=Tryz.underlying239
 a80:=Tryz.isAgg239
 z80:=Tryz.sizeOf239
 v80:=Tryz.zeroValue239
 i0:=by kernel_rfl
 i2:=by kernel_rfl
 i3:=by kernel_rfl
 i4:=by kernel_rfl
 i5:=by kernel_rfl
 i9:=by kernel_rfl
 i20:=by kernel_rfl
 i21:=by kernel_rfl
 i37:=by kernel_rfl
 i46:=by kernel_rfl
 i51:=by kernel_rfl
 i53:=by kernel_rfl
 i75:=by kernel_rfl
 i76:=by kernel_rfl
 i80:=by kernel_rfl
 i85:=by kernel_rfl
 i127:=by kernel_rfl
 i143:=by kernel_rfl
 i145:=by kernel_rfl
 i167:=by kernel_rfl
 i168:=by kernel_rfl
 i171:=by kernel_rfl
 i173:=by kernel_rfl
 i175:=by kernel_rfl
 i210:=by kernel_rfl
 i212:=by kernel_rfl
 i232:=by kernel_rfl
 i233:=by kernel_rfl
 m15:=by kernel_rfl
 m16:=by kernel_rfl
 m17:=by kernel_rfl
 m18:=by kernel_rfl
 m19:=by kernel_rfl
 c0:=by kernel_rfl
 c2:=by kernel_rfl
 c3:=by kernel_rfl
 c4:=by kernel_rfl
 c5:=by kernel_rfl
 c9:=by kernel_rfl
 c20:=by kernel_rfl
 c21:=by kernel_rfl
 c37:=by kernel_rfl
 c46:=by kernel_rfl
 c51:=by kernel_rfl
 c53:=by kernel_rfl
 c75:=by kernel_rfl
 c76:=by kernel_rfl
 c80:=by kernel_rfl
 c85:=by kernel_rfl
 c127:=by kernel_rfl
 c143:=by kernel_rfl
 c145:=by kernel_rfl
 c167:=by kernel_rfl
 c168:=by kernel_rfl
 c171:=by kernel_rfl
 c173:=by kernel_rfl
 c175:=by kernel_rfl
 c210:=by kernel_rfl
 c212:=by kernel_rfl
 c213:=by kernel_rfl
 c232:=by kernel_rfl
 c233:=by kernel_rfl
theorem tZ (l:List UInt8) (h:l.length<=281474976710656):ah Tryz.prog 108 [.d (.str l)] (.tup [.d (.int .i64 (eH l).1),.d (if (eH l).2 then .nili else .any)]):=ah.of0 λw I vs hI ha=>by
 simp only[ap,ai,ar] at ha;obtain⟨_,_,rfl,rfl,rfl⟩:=ha;have hs:(⟨l.toArray⟩:ByteArray).size=l.length:=by simp[ByteArray.size]
 rcases hl:Lib.atoiAll l with v|_|_
 ·refine(Any.strconv_Atoi_ok mm ⟨l.toArray⟩ (by omega) v (by simpa using hl) w).mono ?_
  rintro e w' ⟨rfl,hw⟩;refine⟨_,rfl,?_,λ_=>?_⟩
  ·rcases hw with rfl|⟨t,rfl⟩
   ·exact Below.refl _ _
   ·exact Lib.bytesWorld_below _ _ _
  ·simp[ai,ap,ar,eH,hl]
 ·obtain⟨tp,p,hv⟩:=xj hI;refine(Any.strconv_Atoi_syntax_var mm ⟨l.toArray⟩ (by omega) (by simpa using hl) tp p w hv).mono ?_
  rintro e w' ⟨N,rfl,_,_,hb⟩;exact⟨_,rfl,hb,λ_=>by
   simp only[ai,ap,ar,eH,hl,Bool.false_eq_true,if_false];exact⟨_,rfl,_,_,rfl,rfl,_,_,rfl,⟨_,_,rfl⟩,rfl⟩⟩
 ·obtain⟨tp,p,hv⟩:=By hI;refine(Any.strconv_Atoi_range_var mm ⟨l.toArray⟩ (by omega) (by simpa using hl) tp p w hv).mono ?_
  rintro e w' ⟨N,rfl,_,_,hb⟩;exact⟨_,rfl,hb,λ_=>by
   simp only[ai,ap,ar,eH,hl,Bool.false_eq_true,if_false];exact⟨_,rfl,_,_,rfl,rfl,_,_,rfl,⟨_,_,rfl⟩,rfl⟩⟩
end Go.Proofs.YtlhmejigmokbhaaGreatDoor.Pay
namespace Go.Proofs.YtlhmejigmokbhaaGreatDoor.Pay
open Go Go.RowKit
theorem iH (u:Nat) (k:Nat) (h:u<10^(k+1)):(Lib.decDigits u).length<=k+1:=by
 induction k generalizing u with
 |zero=>rw[Lib.decDigits,dif_pos (by omega)];simp
 |succ k ih=>
  rw[Lib.decDigits];split
  ·simp
  ·have:=ih (u/10) (by rw[Nat.pow_succ] at h;omega)
   simp;omega
theorem gW {n:Int} (h0: -9223372036854775808<=n) (h1:n<=9223372036854775807):(Lib.itoa n).length<=20:=by
 unfold Lib.itoa;split
 ·have:=iH n.natAbs 18 (by omega)
  simp;omega
 ·have:=iH n.toNat 18 (by omega)
  omega
theorem ne (u:Nat):1<=(Lib.decDigits u).length:=by
 rw[Lib.decDigits];split<;>simp
set_option linter.unusedVariables false
set_option linter.unusedSimpArgs false
theorem eQ {n:Int} (h1:0<=n) (h2:n<18446744073709551616):IntKind.u64.wrap n=n:=by rw[IntKind.wrap_u64];omega
theorem lH (a:Nat):IntKind.u64.wrap (a:Int)=((a%18446744073709551616:Nat):Int):=by rw[IntKind.wrap_u64];omega
theorem qh (a:Nat) (ha:a<18446744073709551616):bits .and .u64 (a:Int) 4294967295=((a%4294967296:Nat):Int):=by
 have h:=bits_and_u64_nat a 4294967295 ha (by omega)
 have e:a&&& 4294967295=a%4294967296:=Nat.and_two_pow_sub_one_eq_mod a 32;rw[e] at h;exact h
theorem Hg {k:Nat} (h:k<=64):min k IntKind.u64.bits=k:=by show min k 64=k;omega
theorem ur (a:Nat) {k:Nat} (h:k<=64):(a:Int).fdiv (2^min k IntKind.u64.bits)=((a/2^k:Nat):Int):=by
 rw[Hg h,Int.fdiv_eq_ediv_of_nonneg _ (Int.le_of_lt (Int.pow_pos (by decide)))]
 rw[show(2:Int)^k=((2^k:Nat):Int) from by simp,<-Int.natCast_ediv]
theorem Fg (a:Nat) {k:Nat} (h:k<=64):IntKind.u64.wrap ((a:Int)*2^min k IntKind.u64.bits)=((a*2^k%18446744073709551616:Nat):Int):=by
 rw[Hg h,show(2:Int)^k=((2^k:Nat):Int) from by simp,<-Int.natCast_mul,lH]
theorem rK (a:Nat):(a:Int).fdiv (2^min 32 IntKind.u64.bits)=((a/4294967296:Nat):Int):=ur a (by decide)
theorem oT {a b p:Nat} (hp:a*b=p) (h:p<18446744073709551616):IntKind.u64.wrap ((a:Int)*b)=(p:Int):=by
 rw[<-Int.natCast_mul,hp,lH];omega
theorem yK {a b p:Nat} (hp:a+b=p) (h:p<18446744073709551616):IntKind.u64.wrap ((a:Int)+b)=(p:Int):=by
 rw[<-Int.natCast_add,hp,lH];omega
theorem eT (n:Int) (h: -9223372036854775808<=n/\n<=9223372036854775807):ah Tryz.prog 103 [.d (dI n)] (.d (.int .u64 n.natAbs)):=by
 have hw1:n<0->IntKind.u64.wrap (-(IntKind.u64.wrap n))=n.natAbs:=λh0=>by rw[IntKind.wrap_u64,IntKind.wrap_u64];omega
 have hw2:¬n<0->IntKind.u64.wrap n=n.natAbs:=λh0=>by rw[IntKind.wrap_u64];omega
 refine ah.enter tabOk Tryz.func103 rfl (by show 1<=10;decide) ?_
 simp only[Tryz.f103];have H:=trivial;refine zR ?_;refine WpC.seq ?_;refine zR ?_;refine zD (n<0) (λd4=>?_) (λd4=>?_)
 ·have hw:=hw1 d4;replace H:=And.intro d4 (And.intro hw H);refine zR ?_;refine WpC.ret ?_;try simp only[aa,aj]
  refine zE ?_;simp -implicitDefEqProofs[H]
 have hw:=hw2 d4;replace H:=And.intro d4 (And.intro hw H);refine WpC.skip ?_;refine zR ?_;refine WpC.ret ?_;try simp only[aa,aj]
 refine zE ?_;simp -implicitDefEqProofs[H]
theorem mf (x y:Nat) (hx:x<18446744073709551616) (hy:y<18446744073709551616):
 ah Tryz.prog 102 [.d (.int .u64 x),.d (.int .u64 y)] (.tup [.d (.int .u64 ((x*y/18446744073709551616:Nat):Int)),.d (.int .u64 ((x*y%18446744073709551616:Nat):Int))]):=by
 obtain⟨bd,bt,bw,hhi⟩:=Go.Lib.mul64_hi x y hx hy;have hlo:IntKind.u64.wrap ((x:Int)*y)=((x*y%18446744073709551616:Nat):Int):=by rw[<-Int.natCast_mul,lH]
 have m1:=qh x hx;have m2:=qh y hy;have s1:=rK x;have s2:=rK y;rw[<-hhi];obtain⟨x0,hx0⟩:∃q,x%4294967296=q:=⟨_,rfl⟩
 obtain⟨x1,hx1⟩:∃q,x/4294967296=q:=⟨_,rfl⟩
 obtain⟨y0,hy0⟩:∃q,y%4294967296=q:=⟨_,rfl⟩
 obtain⟨y1,hy1⟩:∃q,y/4294967296=q:=⟨_,rfl⟩
 have ba:=Go.Lib.half_mul_le (a:=x1) (b:=y1) (by omega) (by omega)
 have bb:=Go.Lib.half_mul_le (a:=x1) (b:=y0) (by omega) (by omega)
 have bc:=Go.Lib.half_mul_le (a:=x0) (b:=y1) (by omega) (by omega)
 simp only[hx0,hx1,hy0,hy1] at bd bt bw hhi m1 m2 s1 s2 ⊢;obtain⟨w0,hw0⟩:∃q,x0*y0=q:=⟨_,rfl⟩
 obtain⟨p10,hp10⟩:∃q,x1*y0=q:=⟨_,rfl⟩
 obtain⟨p01,hp01⟩:∃q,x0*y1=q:=⟨_,rfl⟩
 obtain⟨p11,hp11⟩:∃q,x1*y1=q:=⟨_,rfl⟩
 rw[hw0] at bd;rw[hw0,hp10] at bt;rw[hw0,hp10,hp01] at bw;rw[hw0,hp10,hp01,hp11] at hhi ⊢;rw[hp11] at ba;rw[hp10] at bb;rw[hp01] at bc;have e1:=oT hw0 (by omega)
 have e2:=oT hp10 (by omega)
 have e3:=oT hp01 (by omega)
 have e4:=oT hp11 (by omega)
 have e5:=rK w0;obtain⟨w0h,hw0h⟩:∃q,w0/4294967296=q:=⟨_,rfl⟩
 rw[hw0h] at e5 bt bw hhi ⊢;obtain⟨t,ht⟩:∃q,p10+w0h=q:=⟨_,rfl⟩
 rw[ht] at bt bw hhi ⊢;have e6:=yK ht (by omega)
 have e7:=qh t (by omega)
 have e8:=rK t;obtain⟨tl,htl⟩:∃q,t%4294967296=q:=⟨_,rfl⟩
 obtain⟨th,hth⟩:∃q,t/4294967296=q:=⟨_,rfl⟩
 rw[htl] at e7 bw hhi ⊢;rw[hth] at e8 hhi ⊢;obtain⟨w1,hw1⟩:∃q,tl+p01=q:=⟨_,rfl⟩
 rw[hw1] at bw hhi ⊢;have e9:=yK hw1 (by omega)
 have e10:=rK w1;obtain⟨w1h,hw1h⟩:∃q,w1/4294967296=q:=⟨_,rfl⟩
 rw[hw1h] at e10 hhi ⊢;obtain⟨s,hs⟩:∃q,p11+th=q:=⟨_,rfl⟩
 have e11:=yK hs (by omega)
 rw[hs] at hhi ⊢;obtain⟨hi,hhi'⟩:∃q,s+w1h=q:=⟨_,rfl⟩
 have e12:=yK hhi' (by omega)
 rw[hhi'] at hhi ⊢;refine ah.enter tabOk Tryz.func102 rfl (by show 2<=51;decide) ?_
 simp only[Tryz.f102];have H:=And.intro hlo (And.intro m1 (And.intro m2 (And.intro s1 (And.intro s2 (And.intro e1 (And.intro e2 (And.intro e3 (And.intro e4 (And.intro e5 (And.intro e6 (And.intro e7 (And.intro e8 (And.intro e9 (And.intro e10 (And.intro e11 e12)))))))))))))));iterate 12 refine zR ?_
 refine WpC.ret ?_;try simp only[aa,aj]
 refine zE ?_;simp -implicitDefEqProofs[H]
theorem iQ {y k:Nat} (h:2^k<=y):0<y/2^k/\y.log2=k+(y/2^k).log2:=by
 have hk:0<2^k:=Nat.two_pow_pos k;have h1:0<y/2^k:=Nat.div_pos h hk;refine⟨h1,?_⟩;have hy:y≠0:=by omega
 rw[Nat.log2_eq_iff hy];have h2:=Nat.log2_self_le (n:=y/2^k) (by omega)
 have h3:=Nat.lt_log2_self (n:=y/2^k);obtain⟨l,hl⟩:∃l,(y/2^k).log2=l:=⟨_,rfl⟩
 rw[hl] at h2 h3 ⊢;refine⟨?_,?_⟩
 ·rw[Nat.pow_add,Nat.mul_comm];exact Nat.le_trans (Nat.mul_le_mul_right _ h2) (Nat.div_mul_le_self y _)
 ·rw[Nat.add_assoc,Nat.pow_add,Nat.mul_comm];exact(Nat.div_lt_iff_lt_mul hk).1 h3
theorem wT (y:Nat) (h0:0<y) (hy:y<18446744073709551616):ah Tryz.prog 139 [.d (.int .u64 y)] (.d (dI (y.log2+1))):=by
 obtain⟨x1,n1,hx1,hxl1,hn1,hl1,ha1,hb1⟩:∃x1 n1:Nat,0<x1/\x1<4294967296/\n1<=32/\y.log2=n1+x1.log2/\(4294967296<=y->x1=y/4294967296/\n1=32)/\(¬4294967296<=y->x1=y/\n1=0):=by
  by_cases h:4294967296<=y
  ·obtain⟨h1,h2⟩:=iQ (k:=32) h;exact⟨y/4294967296,32,h1,by omega,by omega,h2,λ_=>⟨rfl,rfl⟩,λq=>absurd h q⟩
  ·exact⟨y,0,h0,by omega,by omega,by omega,λq=>absurd q h,λ_=>⟨rfl,rfl⟩⟩
 obtain⟨x2,n2,hx2,hxl2,hn2,hl2,ha2,hb2⟩:∃x2 n2:Nat,0<x2/\x2<65536/\n2<=48/\y.log2=n2+x2.log2/\(65536<=x1->x2=x1/65536/\n2=n1+16)/\(¬65536<=x1->x2=x1/\n2=n1):=by
  by_cases h:65536<=x1
  ·obtain⟨h1,h2⟩:=iQ (k:=16) h;exact⟨x1/65536,n1+16,h1,by omega,by omega,by rw[hl1,h2,show(2:Nat)^16=65536 from rfl];omega,λ_=>⟨rfl,rfl⟩,λq=>absurd h q⟩
  ·exact⟨x1,n1,hx1,by omega,by omega,by omega,λq=>absurd q h,λ_=>⟨rfl,rfl⟩⟩
 obtain⟨x3,n3,hx3,hxl3,hn3,hl3,ha3,hb3⟩:∃x3 n3:Nat,0<x3/\x3<256/\n3<=56/\y.log2=n3+x3.log2/\(256<=x2->x3=x2/256/\n3=n2+8)/\(¬256<=x2->x3=x2/\n3=n2):=by
  by_cases h:256<=x2
  ·obtain⟨h1,h2⟩:=iQ (k:=8) h;exact⟨x2/256,n2+8,h1,by omega,by omega,by rw[hl2,h2,show(2:Nat)^8=256 from rfl];omega,λ_=>⟨rfl,rfl⟩,λq=>absurd h q⟩
  ·exact⟨x2,n2,hx2,by omega,by omega,by omega,λq=>absurd q h,λ_=>⟨rfl,rfl⟩⟩
 have e1:((4294967296:Int)<=(y:Int))↔4294967296<=y:=by omega
 have e2:((65536:Int)<=(x1:Int))↔65536<=x1:=by omega
 have e3:((256:Int)<=(x2:Int))↔256<=x2:=by omega
 have s1:=ur y (k:=32) (by decide)
 have s2:=ur x1 (k:=16) (by decide)
 have s3:=ur x2 (k:=8) (by decide)
 rw[show(2:Nat)^32=4294967296 from rfl] at s1
 rw[show(2:Nat)^16=65536 from rfl] at s2
 rw[show(2:Nat)^8=256 from rfl] at s3
 have w1:IntKind.i64.wrap ((n1:Int)+16)=((n1+16:Nat):Int):=by rw[am (by omega) (by omega)];omega
 have w2:IntKind.i64.wrap ((n2:Int)+8)=((n2+8:Nat):Int):=by rw[am (by omega) (by omega)];omega
 have w3:IntKind.u8.wrap (x3:Int)=x3:=by simp[IntKind.wrap,IntKind.bits,IntKind.signed];omega
 refine ah.enter tabOk Tryz.func139 rfl (by show 1<=25;decide) ?_
 simp only[Tryz.f139];have H:=And.intro e1 (And.intro e2 (And.intro e3 (And.intro s1 (And.intro s2 (And.intro s3 (And.intro w1 (And.intro w2 (And.intro w3 hxl3))))))));refine zR ?_;refine WpC.seq ?_;refine zR ?_;refine WpC.join ⟨[(0,.d (.int .u64 x1)),(2,.d (dI n1))],[],25,0⟩ ?_ ?_
 ·refine zD (4294967296<=y) (λd4=>?_) (λd4=>?_)
  ·obtain⟨u1,u2⟩:=ha1 d4;subst u2;have u1':=u1.symm;replace H:=And.intro d4 (And.intro u1' H);refine zR ?_;refine zr ?_;exact⟨rfl,Gh.cut' [0,2] 0 (by simp -implicitDefEqProofs[H]) (by simp -implicitDefEqProofs[H]) rfl (by simp) (by simp) (by simp)⟩
  obtain⟨u1,u2⟩:=hb1 d4;subst u1 u2;replace H:=And.intro d4 H;refine WpC.skip ?_;exact⟨rfl,Gh.cut' [0,2] 0 (by simp -implicitDefEqProofs[H]) (by simp -implicitDefEqProofs[H]) rfl (by simp) (by simp) (by simp)⟩
 refine WpC.seq ?_;refine zR ?_;refine WpC.join ⟨[(0,.d (.int .u64 x2)),(2,.d (dI n2))],[],25,0⟩ ?_ ?_
 ·refine zD (65536<=x1) (λd8=>?_) (λd8=>?_)
  ·obtain⟨u1,u2⟩:=ha2 d8;subst u2;have u1':=u1.symm;replace H:=And.intro d8 (And.intro u1' H);refine zR ?_;refine zr ?_;exact⟨rfl,Gh.cut' [0,2] 0 (by simp -implicitDefEqProofs[H]) (by simp -implicitDefEqProofs[H]) rfl (by simp) (by simp) (by simp)⟩
  obtain⟨u1,u2⟩:=hb2 d8;subst u1 u2;replace H:=And.intro d8 H;refine WpC.skip ?_;exact⟨rfl,Gh.cut' [0,2] 0 (by simp -implicitDefEqProofs[H]) (by simp -implicitDefEqProofs[H]) rfl (by simp) (by simp) (by simp)⟩
 refine WpC.seq ?_;refine zR ?_;refine WpC.join ⟨[(0,.d (.int .u64 x3)),(2,.d (dI n3))],[],25,0⟩ ?_ ?_
 ·refine zD (256<=x2) (λd14=>?_) (λd14=>?_)
  ·obtain⟨u1,u2⟩:=ha3 d14;subst u2;have u1':=u1.symm;replace H:=And.intro d14 (And.intro u1' H);refine zR ?_;refine zr ?_;exact⟨rfl,Gh.cut' [0,2] 0 (by simp -implicitDefEqProofs[H]) (by simp -implicitDefEqProofs[H]) rfl (by simp) (by simp) (by simp)⟩
  obtain⟨u1,u2⟩:=hb3 d14;subst u1 u2;replace H:=And.intro d14 H;refine WpC.skip ?_;exact⟨rfl,Gh.cut' [0,2] 0 (by simp -implicitDefEqProofs[H]) (by simp -implicitDefEqProofs[H]) rfl (by simp) (by simp) (by simp)⟩
 generalize hS:ByteArray.mk _=S;have hs0:((List.range 256).all λx=>x==0||(S.data.toList[x]?).map UInt8.toNat==some (x.log2+1))=true:=by rw[<-hS];decide+kernel
 have hs1:=List.all_eq_true.1 hs0 x3 (List.mem_range.2 hxl3);have hx30:(x3==0)=false:=by simp;omega
 rw[hx30,Bool.false_or,beq_iff_eq,Option.map_eq_some_iff] at hs1;obtain⟨b,hs2,hs3⟩:=hs1;have hs2:S.data[x3]?=some b:=by rw[<-Array.getElem?_toList];exact hs2
 have hb:x3.log2<=7:=by have:=(Nat.log2_lt (by omega)).2 (show x3<2^8 from hxl3);omega
 have w4:IntKind.i64.wrap ((x3.log2:Int)+1)=(x3.log2:Int)+1:=am (by omega) (by omega)
 have w5:IntKind.i64.wrap ((n3:Int)+((x3.log2:Int)+1))=(y.log2:Int)+1:=by rw[am (by omega) (by omega)];omega
 replace H:=And.intro hs2 (And.intro hs3 (And.intro w4 (And.intro w5 H)));refine zR ?_;refine WpC.ret ?_;try simp only[aa,aj]
 refine zE ?_;simp -implicitDefEqProofs[H]
set_option linter.unusedSectionVars false
section
variable {P:Program} {T:Nat->Option TI} {w w':World} {I:Nat->Prop} {L:List Lay} {s s':St} {a:Act} {all:Array Oper} {o:Oper} {rest:List Oper} {Q:Exit->St->Prop}
theorem oa {x:D} {v c:Value} (h:ar w I x v) (hc:v.cells= #[c]):∀n:Nat,ax w I 1 (List.replicate n x) (List.replicate n c)
 |0=>by simp[ax]
 |n+1=>by
  rw[List.replicate_succ,List.replicate_succ];simp only[ax];exact⟨v,List.replicate n c,by rw[hc];rfl,by rw[hc];rfl,h,oa h hc n⟩
theorem bK.clear (hT:aP P T) {t e:TypeId} {i ei:TI} {x:Operand} {id off n:Nat} {xs:List D} {o:Oper} (ho:o.op= .call {callee:= .builtin .clear,args:= #[x],argTypes:= #[t]}) (hx:evX s x=some (.so id 1 off n)) (hi:T t=some i) (hk:i.kind= .slice e) (hei:T e=some ei) (h1:ei.size=1)
 (hS:s.S[id]?=some (.arr e 1 xs)) (hn:0<n) (hl:off+n=xs.length) (hset:aY {s with S:=s.S.set id (.arr e 1 (xs.take off++List.replicate n ei.zeroD))} o.dst (.tup [])=some s'):bK P o s s':=λw I L a hs=>by
 have hI:=(hT _ _ hi).kind;rw[hk] at hI;simp only[bx] at hI;obtain⟨z,v,hz,hzr,hvc,hvs⟩:=lF (w:=w) (I:=I) (hT _ _ hei) (.inr h1);rw[h1] at hvs;obtain⟨c,hc⟩:∃c,v.cells= #[c]:=by
  obtain⟨l,hl⟩:∃l,v.cells=Array.mk l:=⟨v.cells.toList,by simp⟩
  rw[hl] at hvs ⊢
  match l,hvs with
  |[c],_=>exact⟨c,rfl⟩
 have hus:=oa hzr hc n;have hone:=hus.ones;have hvx:=hs.evX hx;simp only[ai] at hvx;obtain⟨l,hd,cc,hl',hvx,hle,hxx⟩:=hvx;rcases hxx with h0|⟨b,cap,rfl,rfl,hcap⟩
 ·omega
 rcases hs.obs _ _ _ hS hl' with⟨base,cp,vs,he,hown,hr⟩|⟨hd',he,_⟩
 rotate_left
 ·cases he
 cases he;obtain⟨cur,hcur,hfit,hown'⟩:=kL (p:=off) (m:=n) (us:=List.replicate n c) hown (by omega) (by omega) (by simp)
 have hst:=run_storeCells_at P b (off*1) e (List.replicate n c) 0 cur w hcur (by simpa using hfit) hone
 generalize hw':w.setRow b (cur.toList.take (off*1)++List.replicate n c++cur.toList.drop (off*1+(List.replicate n c).length)).toArray=w' at*;have hkeep:∀j,j<w.heap.size->j∉own (.arr e 1 xs) (.a (some b) cap)->w'.heap[j]?=w.heap[j]?:=λj _ hj=>by
  rw[<-hw'];exact setRow_other w b j _ (by simpa[own] using hj)
 have hII:∀j,I j->w'.heap[j]?=w.heap[j]?:=λj hj=>hkeep j (hs.imm j hj) λhb'=>(hs.sep j (aw hS hl' j hb')).1 hj
 have hs1:w'.heap.size=w.heap.size:=by rw[<-hw'];simp
 have hvl:=hr.length;have hlen':(xs.take off++List.replicate n ei.zeroD).length=max xs.length (off+n):=by
  simp only[List.length_append,List.length_take,List.length_replicate];omega
 have hor:b7 w' I L (.arr e 1 (xs.take off++List.replicate n ei.zeroD)) (.a (some b) cap):=by
  refine .inl ⟨some b,cap,vs.take (off*1)++List.replicate n c++vs.drop ((off+n)*1),rfl,?_,?_⟩
  ·rw[hlen'];exact hown'
  ·have hnil:vs.drop ((off+n)*1)=[]:=List.drop_eq_nil_of_le (by omega)
   rw[hnil,List.append_nil];exact ax.mono hII (λ_ h=>h) _ _ _ ((hr.take off).append hus)
 have hzc:(Builtin.zeroCells z.cells n).toList=List.replicate n c:=by
  rw[<-hvc,hc];simp[Builtin.zeroCells];apply List.ext_getElem
  ·simp
  ·intro i h1 h2;simp[Nat.mod_one]
 have h2:=hs.upd hS hl' (jr _ _ _ _ _) hkeep hs1 hor;have h3:=bq.upd (I:=I) hS hl' (jr e 1 (xs.take off++List.replicate n ei.zeroD) xs (.a (some b) cap)) hkeep hs1 (by rw[<-hw'];rfl) (by rw[<-hw'];rfl) (by rw[<-hw'];rfl)
 obtain⟨r4,r5⟩:=bn (v:= .tuple #[]) h2 h3 (by simp only[ai,ap];exact⟨[],rfl,rfl⟩) hset
 refine⟨_,w',I,L,_,?_,.inl rfl,r4,r5⟩;obtain⟨m,rfl⟩:∃m,n=m+1:=⟨n-1,by omega⟩
 have hrun:(Builtin.clear_ #[t] o.type #[.slice (some ⟨b,off*1,none⟩) (m+1) cc]).run P w= .ok (.tuple #[]) w':=by
  simp[Builtin.clear_,run_underlying hI,hz,hzc];simp at hst;rw[hst];rfl
 unfold execOp;simp only[ho,resolve,invoke,builtin,Sem.run_bind,Sem.run_pure,Result.andThen_ok,List.map_toArray,List.map_cons,List.map_nil,hvx,hrun]
end
end Go.Proofs.YtlhmejigmokbhaaGreatDoor.Pay
