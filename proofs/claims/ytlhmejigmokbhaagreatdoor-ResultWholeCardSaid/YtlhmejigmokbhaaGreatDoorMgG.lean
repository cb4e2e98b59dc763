/- The texts PayJ, PayS, one behind the other. No statement of the seed is proved here. -/
import Derived.Test.YtlhmejigmokbhaaGreatDoorMgF
import Derived.Lib.AppendZerosOnto
import Derived.Lib.Overlaps
namespace Go.Proofs.YtlhmejigmokbhaaGreatDoor.Pay
open Go Go.RowKit
set_option linter.unusedVariables false
set_option linter.unusedSimpArgs false
structure OR (w:World) (I:Nat->Prop) (L:List Lay) (S:List Ob):Prop where
 len:L.length=S.length
 obs:∀(i:Nat) (o:Ob) (l:Lay),S[i]?=some o->L[i]?=some l->b7 w I L o l
 nodup:(aB S L).Nodup
 sep:∀b∈aB S L,¬I b/\b<w.heap.size
 imm:Imm w I
theorem aZ:∀ {S:List Ob} {L:List Lay} {b:Nat},b∈aB S L->∃(i:Nat) (o:Ob) (l:Lay),S[i]?=some o/\L[i]?=some l/\b∈own o l
 |[],L,b,h=>by simp[aB] at h
 |x::S,[],b,h=>by simp[aB] at h
 |x::S,y::L,b,h=>by
  simp only[aB,List.mem_append] at h;rcases h with h|h
  ·exact⟨0,x,y,rfl,rfl,h⟩
  ·obtain⟨i,o,l,h1,h2,h3⟩:=aZ h;exact⟨i+1,o,l,by simpa using h1,by simpa using h2,h3⟩
theorem dE (o:Ob) (l:Lay):(own o l).Nodup:=by
 unfold own;split<;>simp
theorem jr (e k:Nat) (xs ys:List D) (l:Lay):own (.arr e k xs) l=own (.arr e k ys) l:=by
 cases l with
 |a base cap=>cases base<;>rfl
 |_=>rfl
theorem cY:∀ {S:List Ob} {L:List Lay},(∀(i j:Nat) (o o':Ob) (l l':Lay),i≠j->S[i]?=some o->L[i]?=some l->S[j]?=some o'->L[j]?=some l'->∀b∈own o l,b∉own o' l')->(aB S L).Nodup
 |[],L,_=>by simp[aB]
 |x::S,[],_=>by simp[aB]
 |x::S,y::L,h=>by
  simp only[aB,List.nodup_append];refine⟨dE x y,cY λi j o o' l l' hij h1 h2 h3 h4=>h (i+1) (j+1) o o' l l' (by omega) (by simpa using h1) (by simpa using h2) (by simpa using h3) (by simpa using h4),λb hb c hc e=>?_⟩
  subst e;obtain⟨i,o,l,h1,h2,h3⟩:=aZ hc;exact h 0 (i+1) x o y l (by omega) rfl rfl (by simpa using h1) (by simpa using h2) b hb h3
section
variable {P:Program} {T:Nat->Option TI} {w w':World} {I I':Nat->Prop} {L L':List Lay} {s s':St} {a:Act} {all:Array Oper} {o:Oper} {rest:List Oper} {Q:Exit->St->Prop}
theorem SR.or (hs:SR w I L s a):OR w I L s.S:=⟨hs.len,hs.obs,hs.nodup,hs.sep,hs.imm⟩
theorem SR.repl (hs:SR w I L s a) {id:Nat} {o0 o1:Ob} {l0 l1:Lay} (h1:s.S[id]?=some o0) (h2:L[id]?=some l0)
 (hw:∀b,b<w.heap.size->b∉own o0 l0->w'.heap[b]?=w.heap[b]?) (hsz:w.heap.size<=w'.heap.size) (hr:b7 w' I L o1 l1)
 (hown:∀b∈own o1 l1,(b∈own o0 l0\/w.heap.size<=b)/\b<w'.heap.size):SR w' I (L++[l1]) {s with S:=s.S.set id .gone++[o1]} a:=by
 have hI:∀b,I b->w'.heap[b]?=w.heap[b]?:=λb hb=>hw b (hs.imm b hb) λhb'=>(hs.sep b (aw h1 h2 b hb')).1 hb
 have hlen:(s.S.set id .gone).length=L.length:=by simp[hs.len]
 obtain⟨d1,d2⟩:=ip (o':= .gone) h1 h2 rfl hs.nodup;refine⟨λt x hx=>ai.mono hI (λ_ h=>h) (cZ L l1) _ _ (hs.env t x hx),hs.nt,by simp[hs.len],?_,?_,?_,hs.imm.mono hI hsz,hs.defers⟩
 ·intro j oj lj e1 e2;have e1':(s.S.set id .gone++[o1])[j]?=some oj:=e1;by_cases hj:j<s.S.length
  ·rw[List.getElem?_append_left (by simpa using hj)] at e1'
   rw[List.getElem?_append_left (by rw[hs.len];exact hj)] at e2
   by_cases hij:id=j
   ·subst hij;rw[List.getElem?_set_self hj] at e1';cases e1';trivial
   ·rw[List.getElem?_set_ne hij] at e1';exact b7.mono hI (λ_ h=>h) (cZ L l1) (λb hb=>hw b (hs.sep b (aw e1' e2 b hb)).2 (aR hs.nodup e1' e2 h1 h2 (Ne.symm hij) b hb)) (hs.obs j oj lj e1' e2)
  ·rw[List.getElem?_append_right (by simp;omega)] at e1'
   rw[List.getElem?_append_right (by rw[hs.len];omega),hs.len] at e2
   have hz:j-s.S.length=0:=by have:=(List.getElem?_eq_some_iff.1 e1').1;simp at this;omega
   simp only[List.length_set,hz] at e1' e2;simp at e1' e2;subst e1';subst e2;exact b7.mono (λ_ _=>rfl) (λ_ h=>h) (cZ L l1) (λ_ _=>rfl) hr
 ·show(aB (s.S.set id .gone++[o1]) (L++[l1])).Nodup
  rw[b8 _ _ _ _ hlen,List.nodup_append];refine⟨d1,dE _ _,λb hb c hc e=>?_⟩
  subst e;rcases(hown b hc).1 with h|h
  ·exact(d2 b hb).2 h
  ·have:=(hs.sep b (d2 b hb).1).2;omega
 ·intro b hb;have hb':b∈aB (s.S.set id .gone++[o1]) (L++[l1]):=hb;rw[b8 _ _ _ _ hlen] at hb';rcases List.mem_append.1 hb' with hb'|hb'
  ·exact⟨(hs.sep b (d2 b hb').1).1,Nat.lt_of_lt_of_le (hs.sep b (d2 b hb').1).2 hsz⟩
  ·refine⟨λhi=>?_,(hown b hb').2⟩
   rcases(hown b hb').1 with h|h
   ·exact(hs.sep b (aw h1 h2 b h)).1 hi
   ·have:=hs.imm b hi;omega
theorem bq.repl (hs:SR w I L s a) (hp:s.pin<=s.S.length) {id:Nat} {o0 o1:Ob} {l0 l1:Lay} (h1:s.S[id]?=some o0) (h2:L[id]?=some l0)
 (hw:∀b,b<w.heap.size->b∉own o0 l0->w'.heap[b]?=w.heap[b]?) (hsz:w.heap.size<=w'.heap.size) (e1:w'.os=w.os) (e2:w'.tape=w.tape) (e3:w'.output=w.output)
 (hown:∀b∈own o1 l1,(b∈own o0 l0\/w.heap.size<=b)/\b<w'.heap.size):bq w I L s w' I (L++[l1]) {s with S:=s.S.set id .gone++[o1]} where
 evo:=⟨e1,e2,e3,hsz,λb hb hn=>hw b hb (λhb'=>hn (aw h1 h2 b hb')),λ_ h=>h,λ_ h=> .inl h,λb hb=>by
  have hlen:(s.S.set id .gone).length=L.length:=by simp[hs.len]
  obtain⟨d1,d2⟩:=ip (o':= .gone) h1 h2 rfl hs.nodup;have hb':b∈aB (s.S.set id .gone++[o1]) (L++[l1]):=hb;rw[b8 _ _ _ _ hlen] at hb';rcases List.mem_append.1 hb' with hb'|hb'
  ·exact .inl (d2 b hb').1
  ·rcases(hown b hb').1 with h|h
   ·exact .inl (aw h1 h2 b h)
   ·exact .inr h⟩
 pin:=rfl
 lay:=λi hi=>by rw[List.getElem?_append_left (by rw[hs.len];omega)]
def AF (s:St) (ei:TI):TK->FV->Option (List D)
 | .slice _,y=>vT s ei.size y
 | .str,.d (.str l)=>(match ei.kind with
  | .int .u8=>if ei.size=1 then some (l.map λb=> .int .u8 b.toNat) else none
  |_=>none)
 |_,_=>none
def u4 (T:Nat->Option TI) (s:St) (t u:TypeId) (x y:FV):Option (List Ob×Nat):=
 (T t).bind λi=>(T u).bind λj=>match i.kind,j.kind with
 | .slice e,.int _=>(T e).bind λei=>(match x,y with
  | .sc id n c,.d (.int _ z)=>(match s.S[id]? with
   |some (.arr e' k xs)=>if e'=e/\k=ei.size/\n<=xs.length/\0<k/\0<z/\c<n+z.toNat/\n+z.toNat<=8589934592/\ei.bytes<=16384/\oQ ei=true then some (s.S++[.arr e k (xs.take n++List.replicate z.toNat ei.zeroD)],n+z.toNat) else none
   |_=>none)
  |_,_=>none)
 | .slice e,jk=>(T e).bind λei=>(AF s ei jk y).bind λys=>(match x with
  | .sl id n=>(match s.S[id]? with
   |some (.arr e' k xs)=>if e'=e/\k=ei.size/\n<=xs.length/\0<k/\n+ys.length<=8589934592/\ei.bytes<=16384 then some (s.S.set id .gone++[.arr e k (xs.take n++ys)],n+ys.length) else none
   |_=>none)
  | .d .nil=>if 0<ei.size/\ys.length<=8589934592/\ei.bytes<=16384 then some (s.S++[.arr e ei.size ys],ys.length) else none
  |_=>none)
 |_,_=>none
theorem sG:∀l:List UInt8,ax w I 1 (l.map λb=>D.int .u8 b.toNat) (l.map λb=>Value.int .u8 b.toNat)
 |[]=>by simp[ax]
 |b::l=>by
  simp only[List.map_cons,ax];exact⟨_,_,rfl,rfl,rfl,sG l⟩
theorem AE (hs:SR w I L s a) {t u e ty:TypeId} {j:TypeInfo} {z:Value} {ei:TI} {jk:TK} (ht:P.underlying t=some (.slice e)) (hu:bx P u jk) (hj:P.info? e=some j) (hz:j.zero=some z) (hk:j.size=ei.size)
 {y:FV} {v:Value} {ys:List D} (hy:ai w I L y v) (h:AF s ei jk y=some ys):∃us,ax w I ei.size ys us/\Src P w t u ty e j z v ys.length us:=by
 unfold AF at h;split at h
 ·obtain⟨hd2,c2,us,hvy,hus,hcs,hdn⟩:=sJ hs hy h;subst hvy;exact⟨us,hus,Src.slice ht hu hj hz (by rw[hk];exact hus) hcs hdn⟩
 ·split at h
  ·split at h
   ·rename_i h1;cases h;simp only[ai,ar] at hy;subst hy;rw[h1];refine⟨_,sG _,?_⟩;rw[List.length_map];exact Src.str ht hu hj hz (hk.trans h1) _
   ·cases h
  ·cases h
 ·cases h
theorem eS {n b:Nat} (h1:n<=8589934592) (h2:b<=16384):n*b<=140737488355328/\n<=maxLen:=by
 refine⟨?_,by simp only[maxLen];omega⟩
 calc n*b<=8589934592*16384:=Nat.mul_le_mul h1 h2
  _=140737488355328:=by decide
theorem ua (hT:aP P T) (hs:SR w I L s a) (hp:s.pin<=s.S.length) {t u e ty:TypeId} {ku kz:IntKind} {ei:TI} (ht:P.underlying t=some (.slice e)) (hu:P.underlying u=some (.int ku)) (hei:T e=some ei) (hok:oQ ei=true)
 {id n c k:Nat} {z:Int} {xs:List D} {l:Lay} {hd:Option Addr} (hS:s.S[id]?=some (.arr e k xs)) (hl:L[id]?=some l) (hh:l.hdr=some (hd,c)) (hk:k=ei.size) (hn:n<=xs.length) (hk0:0<k) (hz:0<z)
 (hc:c<n+z.toNat) (hsm:n+z.toNat<=8589934592) (hby:ei.bytes<=16384):
 ∃v w' L',(Builtin.append_ #[t,u] ty #[.slice hd n c,.int kz z]).run P w= .ok v w'/\SR w' I L' {s with S:=s.S++[.arr e k (xs.take n++List.replicate z.toNat ei.zeroD)]} a/\
  bq w I L s w' I L' {s with S:=s.S++[.arr e k (xs.take n++List.replicate z.toNat ei.zeroD)]}/\ai w' I L' (.sl s.S.length (n+z.toNat)) v:=by
 obtain⟨m,rfl⟩:=Int.eq_ofNat_of_zero_le (Int.le_of_lt hz);simp only[Int.toNat_natCast] at*;subst hk;obtain⟨j,zv,hj,e1,e2,e3,e4,e5⟩:=(hT _ _ hei).info;obtain⟨z',v,hz',hv,hvc,hvs⟩:=lF (w:=w) (I:=I) (hT _ _ hei) (by simpa[oQ] using hok)
 have hzz:z'=zv:=by
  have:(zeroValue e).run P w= .ok zv w:=by simp[Go.zeroValue,typeInfo,hj,e3]
  rw[this] at hz';cases hz';rfl
 subst hzz;obtain⟨vs,hr,hvl,hfirst⟩:∃vs,ax w I ei.size (xs.take n) vs/\vs.length=n*ei.size/\(Builtin.firstCells j.size n (.slice hd n c)).run P w.drew= .ok vs.toArray w.drew:=by
  rcases hs.obs _ _ _ hS hl with⟨base,cp,vs,rfl,hown,hr⟩|⟨hd',rfl,rfl⟩
  ·simp only[Lay.hdr,Option.some.injEq,Prod.mk.injEq] at hh;obtain⟨rfl,rfl⟩:=hh;have hvl:vs.length=xs.length*ei.size:=hr.length;have hlen:(vs.take (n*ei.size)).length=n*ei.size:=by
    rw[List.length_take,hvl];exact Nat.min_eq_left (Nat.mul_le_mul_right _ hn)
   refine⟨vs.take (n*ei.size),hr.take n,hlen,?_⟩;cases base with
   |none=>
    have h0:xs.length=0:=by
     rcases hown.2 with⟨_,h⟩|⟨g,cpp,cur,he,_⟩
     ·exact h
     ·simp[Lay.head] at he
    have hn0:n=0:=by omega
    subst hn0;simp[Builtin.firstCells,Lay.head]
   |some b=>
    have hcells:aN w.drew b 0 (vs.take (n*ei.size)):=by
     by_cases h0:0<vs.length
     ·obtain⟨b',hb',hc'⟩:=bS hown h0;cases hb';exact bj hc' _
     ·rw[List.eq_nil_of_length_eq_zero (show vs.length=0 by omega)]
      intro j v hv;simp at hv
    have:=run_loadCells_list (P:=P) w.drew ⟨b,0,none⟩ (vs.take (n*ei.size)) (λj v hv=>by
     have:=hcells j v hv;simpa[Addr.add_lit] using this)
    rw[hlen] at this;simp[Builtin.firstCells,Lay.head,e1,this]
  ·simp only[List.length_nil,Nat.le_zero] at hn;subst hn;refine⟨[],by simp[ax],by simp,?_⟩
   cases hd<;>simp[Builtin.firstCells,loadCells,loadCellsFrom]
 obtain⟨b1,b2⟩:=eS hsm hby;have hm:0<m:=by omega
 have hmb:m*ei.bytes<=(n+m)*ei.bytes:=Nat.mul_le_mul_right _ (by omega)
 have hrun:=Lib.run_append_grow_zeros (P:=P) w t u ty e j z' kz ku ht hu hj e3 hd n c vs hfirst m hm (by rw[e1];exact hk0) hc (by simp only[maxLen] at b2;omega) (by rw[e2];omega) (by rw[e2];exact growslice_fits hc b1)
 generalize hcap:grownCap w (n+m) c e=cp at hrun;have hge:n+m<=cp:=hcap▸grownCap_ge w (n+m) c e;have hcm:cp<=maxLen:=hcap▸grownCap_le_maxLen w (n+m) c e b2;have hzc:∀q,(Builtin.zeroCells z'.cells q).toList=(List.replicate q z'.cells.toList).flatten:=λq=>by
  rw[<-dA z'.cells z'.cells.size rfl q];rfl
 have hrep:=ax.replicate hv hvs m;rw[hvc] at hrep;have hall:=hr.append hrep;rw[<-hzc m] at hall;have hzl:(Builtin.zeroCells z'.cells m).toList.length=m*ei.size:=by
  rw[Array.length_toList,size_zeroCells,e5]
 generalize hw':w.drew.alloc (.cells (vs.toArray++Builtin.zeroCells z'.cells m++Builtin.zeroCells z'.cells (cp-(n+m))) e)=w' at hrun;have hk1:∀b,b<w.heap.size->w'.heap[b]?=w.heap[b]?:=by
  intro b hb;rw[<-hw'];exact heap_alloc_old w.drew _ (by simpa using hb)
 have hs1:w'.heap.size=w.heap.size+1:=by rw[<-hw'];simp
 have hII:∀b,I b->w'.heap[b]?=w.heap[b]?:=λb hb=>hk1 b (hs.imm b hb)
 have hnew:w'.heap[w.heap.size]?=some (.cells (vs.toArray++Builtin.zeroCells z'.cells m++Builtin.zeroCells z'.cells (cp-(n+m))) e (0,0)):=by
  rw[<-hw'];exact heap_alloc_new w.drew _
 have htl:(xs.take n).length=n:=by rw[List.length_take];omega
 have hxl:(xs.take n++List.replicate m ei.zeroD).length=n+m:=by rw[List.length_append,htl,List.length_replicate]
 have hown':∀b∈own (.arr e ei.size (xs.take n++List.replicate m ei.zeroD)) (.a (some w.heap.size) cp),w.heap.size<=b/\b<w'.heap.size:=by
  intro b hb;simp[own] at hb;subst hb;omega
 have hor:b7 w' I (L++[.a (some w.heap.size) cp]) (.arr e ei.size (xs.take n++List.replicate m ei.zeroD)) (.a (some w.heap.size) cp):=by
  refine .inl ⟨some w.heap.size,cp,vs++(Builtin.zeroCells z'.cells m).toList,rfl,⟨?_,.inr ⟨w.heap.size,cp,_,?_,Nat.zero_le _,hnew,?_,hcm,?_,?_⟩⟩,ax.mono hII (λ_ h=>h) _ _ _ hall⟩
  ·rw[List.length_append,hvl,hzl,hxl,Nat.add_mul]
  ·simp[Lay.head]
  ·rw[hxl];exact hge
  ·simp only[Array.size_append,List.size_toArray,size_zeroCells,e5,hvl,<-Nat.add_mul];congr 1
   omega
  ·rw[hxl];simp only[Array.toList_append];rw[show(n+m)*ei.size=(vs++(Builtin.zeroCells z'.cells m).toList).length from by rw[List.length_append,hvl,hzl,Nat.add_mul]]
   exact List.take_left
 have hsz:w.heap.size<=w'.heap.size:=by omega
 refine⟨_,w',_,hrun,hs.more hk1 hsz hor hown' (dE _ _),bq.more hs hk1 (by rw[<-hw'];rfl) (by rw[<-hw'];rfl) (by rw[<-hw'];rfl) hsz hown' hp,?_⟩
 simp only[ai];exact⟨.a (some w.heap.size) cp,_,cp,by rw[List.getElem?_append_right (by rw[hs.len];exact Nat.le_refl _),hs.len];simp,rfl,rfl⟩
theorem bK.append (hT:aP P T) {t u:TypeId} {sx yx:Operand} {vx vy:FV} {S':List Ob} {n':Nat} (ho:o.op= .call {callee:= .builtin .append,args:= #[sx,yx],argTypes:= #[t,u]})
 (hx:evX s sx=some vx) (hy:evX s yx=some vy) (h:u4 T s t u vx vy=some (S',n')) (hp:s.pin<=s.S.length)
 (hset:aY {s with S:=S'} o.dst (.sl s.S.length n')=some s'):bK P o s s':=λw I L a hs=>by
 unfold u4 at h;simp only[Option.bind_eq_some_iff] at h;obtain⟨i,hi,j,hj,h⟩:=h;have hI:=(hT _ _ hi).kind;have hJ:=(hT _ _ hj).kind;split at h
 ·rename_i e ku hk1 hk2;rw[hk1] at hI;rw[hk2] at hJ;simp only[bx] at hI hJ;simp only[Option.bind_eq_some_iff] at h;obtain⟨ei,hei,h⟩:=h;have hvx:=hs.evX hx;have hvy:=hs.evX hy;split at h
  ·rename_i id n c kz z;simp only[ai,ar] at hvx hvy;obtain⟨l,hd,hl,hh,hvx⟩:=hvx;split at h
   ·rename_i e2 k xs hS;split at h
    ·rename_i hc;obtain⟨rfl,hk,hn,hk0,hz,hcc,hsm,hby,hok⟩:=hc;simp only[Option.some.injEq,Prod.mk.injEq] at h;obtain⟨rfl,rfl⟩:=h;obtain⟨v,w',L',q1,q2,q3,q4⟩:=ua (ty:=o.type) (kz:=kz) hT hs hp hI hJ hei hok hS hl hh hk hn hk0 hz hcc hsm hby;obtain⟨r4,r5⟩:=bn q2 q3 q4 hset;refine⟨_,w',I,_,_,?_,.inl rfl,r4,r5⟩;unfold execOp;simp only[ho,resolve,invoke,builtin,Sem.run_bind,Sem.run_pure,Result.andThen_ok,List.map_toArray,List.map_cons,List.map_nil,hvx,hvy,q1]
    ·cases h
   ·cases h
  ·cases h
 ·rename_i e hk1 hno;rw[hk1] at hI;simp only[bx] at hI;simp only[Option.bind_eq_some_iff] at h;obtain⟨ei,hei,ys,hys,h⟩:=h;obtain⟨tj,z,htj,q1,q2,q3,q4,q5⟩:=(hT _ _ hei).info;obtain⟨us,hus,hsrc⟩:=AE (ty:=o.type) hs hI hJ htj q3 q1 (hs.evX hy) hys;have hvx:=hs.evX hx;have run:∀v r w1,a.eval sx=v->(Builtin.append_ #[t,u] o.type #[v,a.eval yx]).run P w= .ok r w1->(execOp a.eval o).run P w= .ok (.value r) w1:=by
   intro v r w1 hv hr;unfold execOp;simp only[ho,resolve,invoke,builtin,Sem.run_bind,Sem.run_pure,Result.andThen_ok,List.map_toArray,List.map_cons,List.map_nil,hv,hr]
  split at h
  ·rename_i id n;simp only[ai] at hvx;obtain⟨l,hd,cap,hl,hh,hvx⟩:=hvx;split at h
   ·rename_i e2 k xs hS;split at h
    ·rename_i hc;obtain⟨rfl,rfl,hn,hk,hsm,hby⟩:=hc;simp only[Option.some.injEq,Prod.mk.injEq] at h;obtain⟨rfl,rfl⟩:=h;have hlen:(xs.take n).length=n:=by rw[List.length_take];omega
     have hob:=hs.obs _ _ _ hS hl;have hob':b7 w I L (.arr e2 ei.size (xs.take n)) l:=by
      rcases hob with⟨base,cp,vs,rfl,hown,hr⟩|⟨hd',rfl,rfl⟩
      ·refine .inl ⟨base,cp,vs.take (n*ei.size),rfl,?_,hr.take n⟩;rw[hlen];by_cases h0:xs.length=0
       ·have hn0:n=0:=by omega
        have hx0:xs=[]:=List.eq_nil_of_length_eq_zero h0;subst hx0;subst hn0;simp only[ax] at hr;subst hr;simpa using hown
       ·exact oN hown hn h0
      ·exact .inr ⟨hd',rfl,by simp⟩
     have hoo:∀b∈own (.arr e2 ei.size (xs.take n)) l,b∈own (.arr e2 ei.size xs) l:=λb hb=>by rw[jr e2 ei.size xs (xs.take n)];exact hb
     obtain⟨b1,b2⟩:=eS hsm hby;obtain⟨hd',cap',w1,l1,hr,hl1,hor,e1,e2',e3,e4,e5,e6⟩:=mT (ty:=o.type) q1 (by rw[q5]) hk hsrc hh hob' hus (by rw[hlen];exact b2) (by rw[hlen,q2];exact b1)
      (λb hb=>(hs.sep b (aw hS hl b (hoo b hb))).1) hs.imm.lt
     rw[hlen] at hr;have hw5:∀b,b<w.heap.size->b∉own (.arr e2 ei.size xs) l->w1.heap[b]?=w.heap[b]?:=λb hb hn=>e5 b hb λh=>hn (hoo b h)
     have hw6:∀b∈own (.arr e2 ei.size (xs.take n++ys)) l1,(b∈own (.arr e2 ei.size xs) l\/w.heap.size<=b)/\b<w1.heap.size:=λb hb=>⟨(e6 b hb).1.imp (hoo b) (λh=>h),(e6 b hb).2⟩
     have r1:=hs.repl hS hl hw5 e4 hor hw6;have r2:=bq.repl hs hp hS hl hw5 e4 e1 e2' e3 hw6;have r3:ai w1 I (L++[l1]) (.sl s.S.length (n+ys.length)) (.slice hd' (n+ys.length) cap'):=by
      simp only[ai];exact⟨l1,hd',cap',by rw[List.getElem?_append_right (by rw[hs.len];exact Nat.le_refl _),hs.len];simp,hl1,rfl⟩
     obtain⟨r4,r5⟩:=bn r1 r2 r3 hset;refine⟨_,w1,I,_,_,run _ _ _ hvx ?_,.inl rfl,r4,r5⟩;exact hr
    ·cases h
   ·cases h
  ·simp only[ai,ar] at hvx;split at h
   ·rename_i hc;obtain⟨hk,hsm,hby⟩:=hc;simp only[Option.some.injEq,Prod.mk.injEq] at h;obtain⟨rfl,rfl⟩:=h;obtain⟨b1,b2⟩:=eS hsm hby;have hob:b7 w I L (.arr e ei.size []) (.a none 0):= .inl ⟨none,0,[],rfl,World.ownsRow_nil w 0 e ei.size,by simp[ax]⟩
    obtain⟨hd',cap',w1,l1,hr,hl1,hor,e1,e2',e3,e4,e5,e6⟩:=mT (ty:=o.type) q1 (by rw[q5]) hk hsrc (by rfl) hob hus (by simpa using b2) (by rw[q2];simpa using b1)
     (λb hb=>by simp[own] at hb) hs.imm.lt
    simp only[List.nil_append] at hor e6;have hw5:∀b,b<w.heap.size->w1.heap[b]?=w.heap[b]?:=λb hb=>e5 b hb (by simp[own])
    have hw6:∀b∈own (.arr e ei.size ys) l1,w.heap.size<=b/\b<w1.heap.size:=λb hb=>⟨(e6 b hb).1.resolve_left (by simp[own]),(e6 b hb).2⟩
    have hor':=b7.mono (λ_ _=>rfl) (λ_ h=>h) (cZ L l1) (λ_ _=>rfl) hor
    have r1:=hs.more hw5 e4 hor' hw6 (dE _ _);have r2:=bq.more hs hw5 e1 e2' e3 e4 hw6 hp;have r3:ai w1 I (L++[l1]) (.sl s.S.length ys.length) (.slice hd' ys.length cap'):=by
     simp only[ai];exact⟨l1,hd',cap',by rw[List.getElem?_append_right (by rw[hs.len];exact Nat.le_refl _),hs.len];simp,hl1,rfl⟩
    obtain⟨r4,r5⟩:=bn r1 r2 r3 hset;refine⟨_,w1,I,_,_,run _ _ _ hvx ?_,.inl rfl,r4,r5⟩;simpa[Lay.head] using hr
   ·cases h
  ·cases h
 ·cases h
end
section
variable {P:Program} {T:Nat->Option TI} {w w':World} {I:Nat->Prop} {L:List Lay} {s s':St} {a:Act}
def AH (s:St) (k:Nat) (y:FV):Option (List D×Nat):=match y with
 | .so id k' off n=>(match s.S[id]? with
  |some (.arr _ k2 xs)=>if k'=k/\k2=k then some ((xs.drop off).take n,n) else none
  |_=>none)
 |y=>(vT s k y).map λys=>(ys,ys.length)
def u0 (T:Nat->Option TI) (s:St) (t:TypeId) (x y:FV):Option (List Ob×Nat):=
 (T t).bind λi=>match i.kind,x with
 | .slice e,.so id k off n=>(T e).bind λei=>(AH s ei.size y).bind λq=>(match s.S[id]? with
  |some (.arr e' k' xs)=>if e'=e/\k=ei.size/\k'=ei.size/\off<=xs.length/\min q.2 n<=q.1.length then
   some (s.S.set id (.arr e' k' (xs.take off++q.1.take (min q.2 n)++xs.drop (off+min q.2 n))),min q.2 n) else none
  |_=>none)
 |_,_=>none
theorem AG (hs:SR w I L s a) {k:Nat} {y:FV} {v:Value} {q:List D×Nat} (hy:ai w I L y v) (h:AH s k y=some q):
 ∃hd c us,v= .slice hd q.2 c/\ax w I k q.1 us/\(us=[]\/∃b o,hd=some ⟨b,o,none⟩/\aN w b o us)/\(hd=none->q.1=[]):=by
 unfold AH at h;split at h
 ·rename_i id k' off n;split at h
  ·rename_i e k2 xs hS;split at h
   ·rename_i hk;obtain⟨rfl,rfl⟩:=hk;cases h;simp only[ai] at hy;obtain⟨l,hd,c,hl,hv,hle,hx⟩:=hy;rcases hx with h0|⟨b,cap,rfl,rfl,hcap⟩
    ·subst h0;exact⟨hd,c,[],hv,by simp[ax],.inl rfl,λ_=>by simp⟩
    ·rcases hs.obs _ _ _ hS hl with⟨base,cp,vs,he,hown,hr⟩|⟨hd',he,_⟩
     rotate_left
     ·cases he
     cases he;refine⟨_,c,(vs.drop (off*k2)).take (n*k2),hv,(hr.drop off).take n,.inr ⟨b,off*k2,rfl,?_⟩,λe=>by cases e⟩
     by_cases h0:0<vs.length
     ·obtain⟨b',hb',hc'⟩:=bS hown h0;cases hb';have:=bj (bQ hc' (off*k2)) (n*k2);simpa using this
     ·rw[List.eq_nil_of_length_eq_zero (show vs.length=0 by omega)]
      intro j v hv;simp at hv
   ·cases h
  ·cases h
 ·simp only[Option.map_eq_some_iff] at h;obtain⟨ys,hys,rfl⟩:=h;exact sJ hs hy hys
theorem kL {e:TypeId} {k n cap b:Nat} {vs us:List Value} {p m:Nat} (h:w.ownsRow 0 e k (.slice (some ⟨b,0,none⟩) n cap) n vs) (hp:p<=n) (hm:p+m<=cap) (hu:us.length=m*k):
 ∃cur:Array Value,w.heap[b]?=some (.cells cur e (0,0))/\p*k+us.length<=cur.size/\
  (w.setRow b (cur.toList.take (p*k)++us++cur.toList.drop (p*k+us.length)).toArray).ownsRow 0 e k (.slice (some ⟨b,0,none⟩) (max n (p+m)) cap) (max n (p+m)) (vs.take (p*k)++us++vs.drop ((p+m)*k)):=by
 obtain⟨hl,h⟩:=h;rcases h with⟨h,_⟩|⟨g,cp,cur,he,_,hg,hn,hmx,hc,ht⟩
 ·cases h
 ·cases he;have hpk:p*k<=n*k:=Nat.mul_le_mul_right _ hp;have hck:n*k<=cap*k:=Nat.mul_le_mul_right _ hn;have hmk:(p+m)*k<=cap*k:=Nat.mul_le_mul_right _ hm;have hadd:(p+m)*k=p*k+us.length:=by rw[Nat.add_mul,hu]
  have hcs:cur.toList.length=cap*k:=by rw[Array.length_toList,hc]
  have hmax:max n (p+m)*k=max (n*k) (p*k+us.length):=by
   rw[<-hadd];by_cases h:n<=p+m
   ·rw[Nat.max_eq_right h,Nat.max_eq_right (Nat.mul_le_mul_right _ h)]
   ·rw[Nat.max_eq_left (by omega),Nat.max_eq_left (Nat.mul_le_mul_right _ (by omega))]
  refine⟨cur,hg,by omega,?_,.inr ⟨b,cap,_,rfl,Nat.zero_le _,setRow_heap w b cur _ e (0,0) hg,by omega,hmx,?_,?_⟩⟩
  ·rw[hmax,hadd];simp only[List.length_append,List.length_take,List.length_drop,hl];omega
  ·simp only[List.size_toArray,List.length_append,List.length_take,List.length_drop,hcs];omega
  ·rw[hmax,hadd,<-ht];apply List.ext_getElem?;intro j;simp only[List.getElem?_take,List.getElem?_append,List.getElem?_drop,List.length_append,List.length_take,hcs];have e1:min (p*k) (cap*k)=p*k:=by omega
   have e2:min (p*k) (min (n*k) (cap*k))=p*k:=by omega
   rw[e1,e2];by_cases h1:j<p*k
   ·simp[h1,show j<max (n*k) (p*k+us.length) by omega,show j<p*k+us.length by omega,show j<n*k by omega]
   ·by_cases h2:j<p*k+us.length
    ·simp[h1,h2,show j<max (n*k) (p*k+us.length) by omega]
    ·by_cases h3:j<n*k
     ·simp[h2,show j<max (n*k) (p*k+us.length) by omega,show p*k+us.length+(j-(p*k+us.length))<n*k by omega]
     ·simp[h2,show¬j<max (n*k) (p*k+us.length) by omega,show¬p*k+us.length+(j-(p*k+us.length))<n*k by omega]
theorem wi {dT sT ty e:TypeId} {i:TypeInfo} (hu:P.underlying dT=some (.slice e)) (hi:P.info? e=some i) {hd hd2:Option Addr} {n c m c2 cnt:Nat} {us:List Value} (hcnt:min m n=cnt)
 (hus:us.length=cnt*i.size) (hn:hd2=none->us=[]) (hcs:us=[]\/∃b o,hd2=some ⟨b,o,none⟩/\aN w b o us):
 (Builtin.copy_ #[dT,sT] ty #[.slice hd n c,.slice hd2 m c2]).run P w=Result.andThen ((match hd with|some ad=>storeCells ad us|none=>pure ()).run P w) (λ_ w'=> .ok (goInt cnt) w'):=by
 have hl:(Builtin.firstCells i.size cnt (.slice hd2 m c2)).run P w= .ok us.toArray w:=by
  cases hd2 with
  |none=>rw[hn rfl];rfl
  |some ad=>
   have hc:∀j v,us[j]?=some v->w.cell? (ad.add j)=some v:=by
    intro j v hv;rcases hcs with rfl|⟨b,o,he,hc⟩
    ·simp at hv
    ·cases he;simpa[Addr.add_lit] using hc j v hv
   have:=run_loadCells_list (P:=P) w ad us hc;simp only[Builtin.firstCells];rw[<-hus];exact this
 have hmin:Nat.min m n=cnt:=hcnt;cases hd<;>simp[Builtin.copy_,run_underlying hu,Builtin.lenOf,sizeOf,typeInfo,hi,hmin,hl]
theorem bK.copy (hT:aP P T) {t u:TypeId} {dx yx:Operand} {vx vy:FV} {S':List Ob} {n':Nat} {o:Oper} (ho:o.op= .call {callee:= .builtin .copy,args:= #[dx,yx],argTypes:= #[t,u]})
 (hx:evX s dx=some vx) (hy:evX s yx=some vy) (h:u0 T s t vx vy=some (S',n')) (hset:aY {s with S:=S'} o.dst (.d (.int .i64 n'))=some s'):bK P o s s':=λw I L a hs=>by
 unfold u0 at h;simp only[Option.bind_eq_some_iff] at h;obtain⟨i,hi,h⟩:=h;have hI:=(hT _ _ hi).kind;split at h
 ·rename_i e id k off n hk;rw[hk] at hI;simp only[bx] at hI;simp only[Option.bind_eq_some_iff] at h;obtain⟨ei,hei,q,hq,h⟩:=h;obtain⟨tj,z,htj,q1,q2,q3,q4,q5⟩:=(hT _ _ hei).info;split at h
  ·rename_i e' k' xs hS;split at h
   ·rename_i hc;obtain⟨rfl,rfl,rfl,hoff,hmin⟩:=hc;simp only[Option.some.injEq,Prod.mk.injEq] at h;obtain⟨rfl,rfl⟩:=h;obtain⟨hd2,c2,us,hvy,hus,hcs,hdn⟩:=AG hs (hs.evX hy) hq;have hvx:=hs.evX hx;simp only[ai] at hvx;obtain⟨l,hd,c,hl,hvx,hle,hxx⟩:=hvx;generalize hcnt:min q.2 n=cnt at*;have hus':=hus.take cnt;have hul:(us.take (cnt*ei.size)).length=cnt*ei.size:=by
     rw[hus'.length,List.length_take,Nat.min_eq_left hmin]
    have hone:bA (us.take (cnt*ei.size)):=hus.ones.take _;have hrun:=wi (P:=P) (w:=w) (dT:=t) (sT:=u) (ty:=o.type) hI htj (hd:=hd) (hd2:=hd2) (n:=n) (c:=c) (m:=q.2) (c2:=c2) (us:=us.take (cnt*ei.size)) hcnt (by rw[q1];exact hul)
     (λe=>by have h1:=hus.length;rw[hdn e] at h1;rw[List.eq_nil_of_length_eq_zero (show us.length=0 by simpa using h1)];simp)
     (by
      rcases hcs with rfl|⟨b,o,he,hc⟩
      ·left;simp
      ·exact .inr ⟨b,o,he,bj hc _⟩)
    have hxlen:(xs.take off).length=off:=by rw[List.length_take];omega
    have hqlen:(q.1.take cnt).length=cnt:=by rw[List.length_take];omega
    have exec:∀(w1:World) (s1:St),((match hd with|some ad=>storeCells ad (us.take (cnt*ei.size))|none=>pure ()).run P w)= .ok () w1->
     SR w1 I L {s with S:=s.S.set id (.arr e' ei.size (xs.take off++q.1.take cnt++xs.drop (off+cnt)))} a->
     bq w I L s w1 I L {s with S:=s.S.set id (.arr e' ei.size (xs.take off++q.1.take cnt++xs.drop (off+cnt)))}->
     ∃r w' I' L' v,(execOp a.eval o).run P w= .ok r w'/\(r= .value v\/r= .skip/\v=undef)/\SR w' I' L' s' (a.put o.dst v)/\bq w I L s w' I' L' s':=by
     intro w1 s1 hw1 h1 h2;obtain⟨r4,r5⟩:=bn (v:=goInt cnt) h1 h2 (by simp only[ai,ar,goInt]) hset
     refine⟨_,w1,I,L,_,?_,.inl rfl,r4,r5⟩;rw[hw1] at hrun;unfold execOp;simp only[ho,resolve,invoke,builtin,Sem.run_bind,Sem.run_pure,Result.andThen_ok,List.map_toArray,List.map_cons,List.map_nil,hvx,hvy,hrun]
    by_cases h0:cnt=0
    ·subst h0;have hsame:s.S.set id (.arr e' ei.size (xs.take off++q.1.take 0++xs.drop (off+0)))=s.S:=by
      apply List.ext_getElem?;intro j;by_cases hj:id=j
      ·subst hj;rw[List.getElem?_set_self (List.getElem?_eq_some_iff.1 hS).1,hS];simp
      ·rw[List.getElem?_set_ne hj]
     refine exec w s ?_ ?_ ?_
     ·simp only[Nat.zero_mul,List.take_zero];cases hd<;>rfl
     ·rw[hsame];exact hs
     ·rw[hsame];exact bq.refl _ _ _ _
    ·rcases hxx with hn0|⟨b,cap,rfl,rfl,hcap⟩
     ·omega
     rcases hs.obs _ _ _ hS hl with⟨base,cp,vs,he,hown,hr⟩|⟨hd',he,_⟩
     rotate_left
     ·cases he
     cases he;obtain⟨cur,hcur,hfit,hown'⟩:=kL (p:=off) (m:=cnt) hown hoff (by omega) hul
     have hst:=run_storeCells_at P b (off*ei.size) e' (us.take (cnt*ei.size)) 0 cur w hcur (by simpa using hfit) hone
     generalize hw':w.setRow b (cur.toList.take (off*ei.size)++us.take (cnt*ei.size)++cur.toList.drop (off*ei.size+(us.take (cnt*ei.size)).length)).toArray=w' at*;have hkeep:∀j,j<w.heap.size->j∉own (.arr e' ei.size xs) (.a (some b) cap)->w'.heap[j]?=w.heap[j]?:=λj _ hj=>by
      rw[<-hw'];exact setRow_other w b j _ (by simpa[own] using hj)
     have hII:∀j,I j->w'.heap[j]?=w.heap[j]?:=λj hj=>hkeep j (hs.imm j hj) λhb'=>(hs.sep j (aw hS hl j hb')).1 hj
     have hs1:w'.heap.size=w.heap.size:=by rw[<-hw'];simp
     have hlen':(xs.take off++q.1.take cnt++xs.drop (off+cnt)).length=max xs.length (off+cnt):=by
      simp only[List.length_append,hxlen,hqlen,List.length_drop];omega
     have hor:b7 w' I L (.arr e' ei.size (xs.take off++q.1.take cnt++xs.drop (off+cnt))) (.a (some b) cap):=by
      refine .inl ⟨some b,cap,vs.take (off*ei.size)++us.take (cnt*ei.size)++vs.drop ((off+cnt)*ei.size),rfl,?_,ax.mono hII (λ_ h=>h) _ _ _ (((hr.take off).append hus').append (hr.drop (off+cnt)))⟩
      rw[hlen'];exact hown'
     refine exec w' s (by simpa using hst) (hs.upd hS hl (jr _ _ _ _ _) hkeep hs1 hor) (bq.upd hS hl (jr _ _ _ _ _) hkeep hs1 (by rw[<-hw'];rfl) (by rw[<-hw'];rfl) (by rw[<-hw'];rfl))
   ·cases h
  ·cases h
 ·cases h
theorem xL {t:TypeId} {x y:FV} {p:List Ob×Nat} (h:u0 T s t x y=some p):p.1.length=s.S.length/\∀i,(∀id k off n,x= .so id k off n->i≠id)->p.1[i]?=s.S[i]?:=by
 unfold u0 at h;simp only[Option.bind_eq_some_iff] at h;obtain⟨i,hi,h⟩:=h;split at h
 ·simp only[Option.bind_eq_some_iff] at h;obtain⟨ei,hei,q,hq,h⟩:=h;split at h
  ·split at h
   ·cases h;exact⟨by simp,λj hj=>List.getElem?_set_ne (Ne.symm (hj _ _ _ _ rfl))⟩
   ·cases h
  ·cases h
 ·cases h
theorem bK.over (hT:aP P T) {fx:Operand} {f:FuncId} {fn:Func} {x y:Operand} {t tb:TypeId} {i ei:TI} {e:TypeId} {ts:Array TypeId} {o:Oper} (ho:o.op= .call {callee:= .value fx,args:= #[x,y],argTypes:=ts}) (hfx:evX s fx=some (.fn f []))
 (hf:P.funcs[f]?=some fn) (hname:(fn.name== "runtime.NumGoroutine")=false) (hb:fn.body.isNone=true) (hn:Extern.findNext fn=none) (he:Extern.find fn=some (Extern.SlicesOverlaps.overlaps #[t,t] #[tb])) (hi:T t=some i) (hk:i.kind= .slice e) (hei:T e=some ei)
 {id1 n1 id2 k off n2 e1 k1 e2 k2:Nat} {xs1 xs2:List D} (hx:evX s x=some (.sl id1 n1)) (hy:evX s y=some (.so id2 k off n2)) (h1:s.S[id1]?=some (.arr e1 k1 xs1)) (h2:s.S[id2]?=some (.arr e2 k2 xs2)) (hne:id1≠id2)
 (hn1:0<xs1.length) (hn2:0<n2) (hk2:0<k2) (hset:aY s o.dst (.d (.bool false))=some s'):bK P o s s':=λw I L a hs=>by
 have hI:=(hT _ _ hi).kind;rw[hk] at hI;simp only[bx] at hI;have hvx:=hs.evX hx;have hvy:=hs.evX hy;have hvf:=hs.evX hfx;simp only[ai,ap] at hvx hvy hvf;obtain⟨l1,hd1,cap1,hl1,hh1,hvx⟩:=hvx;obtain⟨l2,hd2,c2,hl2,hvy,_,hx2⟩:=hvy;obtain⟨_,hvf,rfl⟩:=hvf;rcases hx2 with h0|⟨b2,cap2,rfl,rfl,hcap⟩
 ·omega
 rcases hs.obs _ _ _ h1 hl1 with⟨base1,cp1,vs1,rfl,hown1,hr1⟩|⟨hd',rfl,rfl⟩
 rotate_left
 ·simp at hn1
 rcases hs.obs _ _ _ h2 hl2 with⟨base2,cp2,vs2,q,hown2,hr2⟩|⟨hd',q,_⟩
 rotate_left
 ·cases q
 cases q;simp only[Lay.hdr,Option.some.injEq,Prod.mk.injEq] at hh1;obtain⟨rfl,rfl⟩:=hh1;rcases hown1.2 with⟨_,h0⟩|⟨g1,cpp1,cur1,q1,_,hg1,_⟩
 ·omega
 rcases hown2.2 with⟨q,_⟩|⟨g2,cpp2,cur2,q2,_,hg2,_,_,hc2,_⟩
 ·simp[Lay.head] at q
 cases base1 with
 |none=>simp[Lay.head] at q1
 |some b1=>
  simp only[Lay.head,Option.map_some,Value.slice.injEq,Option.some.injEq,Addr.mk.injEq,and_true,true_and] at q1 q2;obtain⟨rfl,rfl⟩:=q1;obtain⟨rfl,rfl⟩:=q2;have hbb:b1≠b2:=λq=>by
   subst q;exact aR hs.nodup h1 hl1 h2 hl2 hne b1 (by simp[own]) (by simp[own])
  have hkB:cur2.size≠0:=by
   rw[hc2];exact Nat.ne_of_gt (Nat.mul_pos (by omega) hk2)
  obtain⟨r1,r2,r3⟩:=hs.put (x:= .d (.bool false)) (v:= .bool false) (by simp only[ai,ar]) hset
  refine⟨_,w,I,L,.bool false,?_,.inl rfl,r1,⟨by rw[r2];exact Evo.refl _ _ _,r3,λ_ _=>rfl⟩⟩
  have hrun:=Lib.run_overlaps_apart (P:=P) w t tb e hI ei.size (λw=>(hT _ _ hei).sizeOf) ⟨b1,0,none⟩ ⟨b2,off*k,none⟩ n1 cp1 n2 c2 hbb e1 e2 cur1.size cur2.size
   (by simp[World.shape?,hg1]) (by simp[World.shape?,hg2]) hkB (by simp[World.frozen?,hg1]) (by simp[World.frozen?,hg1])
  have hcf:(callFunc f #[Value.slice (some ⟨b1,0,none⟩) n1 cp1,Value.slice (some ⟨b2,off*k,none⟩) n2 c2]).run P w= .ok (.value (.bool false)) w:=by
   rw[run_callFunc_extern hf hname hb hn he,hrun];rfl
  unfold execOp;simp only[ho,resolve,invoke,Deferred.ofValue,Sem.run_bind,Sem.run_pure,Result.andThen_ok,List.map_toArray,List.map_cons,List.map_nil,hvx,hvy,hvf,Lay.head,Option.map_some,Array.append_empty,Array.empty_append];exact hcf
end
end Go.Proofs.YtlhmejigmokbhaaGreatDoor.Pay
