/- The texts PayA, PayB, one behind the other. No statement of the seed is proved here. -/
import Derived.WalkKit
import Derived.WideLaws
import Derived.Laws.AppendOwn
import Derived.Laws.OwnMore
import Derived.Laws.MakeOwn
import Derived.Laws.Rows
import Derived.Laws.Tables
import Derived.Below
namespace Go.Proofs.YtlhmejigmokbhaaGreatDoor.Pay
open Go Go.RowKit
set_option linter.unusedVariables false
set_option linter.unusedSimpArgs false
inductive D where
 |bool (b:Bool)
 |int (k:IntKind) (n:Int)
 |str (s:List UInt8)
 |flt (k:FloatKind) (b:Nat)
 |cpx (k:FloatKind) (re im:Nat)
 |nil
 |list (k:Nat) (xs:List D)
 |agg (cs:List D)
 |nilp
 |nili
 |any
 |nilm
 |map (ks es:List D)
 deriving Inhabited
def D.cs:D->List D
 | .agg cs=>cs
 |x=>[x]
def aN (w:World) (b o:Nat) (vs:List Value):Prop:=∀j v,vs[j]?=some v->w.cell? ⟨b,o+j,none⟩=some v
def bA (vs:List Value):Prop:=∀v∈vs,v.oneCell'=true
def fB (ents:Array MapEntry) (clock:Nat):Prop:=clock=ents.size/\∀(i:Nat) (e:MapEntry),ents[i]?=some e->e.born=i
mutual
def ar (w:World) (I:Nat->Prop):D->Value->Prop
 | .bool b,v=>v= .bool b
 | .int k n,v=>v= .int k n
 | .str s,v=>v= .string ⟨s.toArray⟩
 | .flt k b,v=>v= .float k b
 | .cpx k a b,v=>v= .complex k a b
 | .nil,v=>v= .slice none 0 0
 | .list k xs,v=>∃base c,v= .slice base xs.length c/\xs.length<=c/\(xs=[]\/∃b o vs,base=some ⟨b,o,none⟩/\I b/\aN w b o vs/\ax w I k xs vs)
 | .agg cs,v=>∃vs:List Value,v= .agg vs.toArray/\bA vs/\au w I cs vs
 | .nilp,v=>v= .pointer none
 | .nili,v=>v= .nilIface
 | .any,v=>∃t u,v= .iface t u
 | .nilm,v=>v= .map none
 | .map ks es,v=>∃r ents clock,v= .map (some r)/\I r/\w.heap[r]?=some (.map ents clock)/\fB ents clock/\au w I ks (ents.toList.map (·.key))/\au w I es (ents.toList.map (·.val))
def au (w:World) (I:Nat->Prop):List D->List Value->Prop
 |[],vs=>vs=[]
 |c::cs,vs=>∃v r,vs=v::r/\ar w I c v/\au w I cs r
def ax (w:World) (I:Nat->Prop) (k:Nat):List D->List Value->Prop
 |[],vs=>vs=[]
 |x::xs,vs=>∃v r,vs=v.cells.toList++r/\v.cells.size=k/\ar w I x v/\ax w I k xs r
end
inductive FV where
 |d (x:D)
 |ref (id off:Nat)
 |sl (id n:Nat)
 |er (id k i off:Nat)
 |dp (cs:List D)
 |agg (cs:List FV)
 |fn (f:FuncId) (caps:List FV)
 |tup (vs:List FV)
 |mp (id:Nat)
 |so (id k off n:Nat)
 |sc (id n c:Nat)
 |dead
 deriving Inhabited
inductive Ob where
 |cells (t:TypeId) (cs:List FV)
 |arr (e:TypeId) (k:Nat) (xs:List D)
 |frz (k:Nat) (xs:List D)
 |map (ks es:List D)
 |fmap (ks es:List D)
 |iter (ks es:List D) (seen:List Nat)
 |gone
 deriving Inhabited
inductive Lay where
 |c (b:Nat)
 |a (base:Option Nat) (cap:Nat)
 |z (hd:Option Addr)
 |m (r:Nat)
def Lay.head (base:Option Nat):Option Addr:=base.map λb=>⟨b,0,none⟩
def Lay.hdr:Lay->Option (Option Addr×Nat)
 | .a base cap=>some (Lay.head base,cap)
 | .z hd=>some (hd,0)
 |_=>none
mutual
def ai (w:World) (I:Nat->Prop) (L:List Lay):FV->Value->Prop
 | .d x,v=>ar w I x v
 | .ref id off,v=>∃b,L[id]?=some (.c b)/\v= .pointer (some ⟨b,off,none⟩)
 | .sl id n,v=>∃l hd cap,L[id]?=some l/\l.hdr=some (hd,cap)/\v= .slice hd n cap
 | .er id k i off,v=>∃b cap,L[id]?=some (.a (some b) cap)/\v= .pointer (some ⟨b,i*k+off,none⟩)
 | .dp cs,v=>∃b o vs,v= .pointer (some ⟨b,o,none⟩)/\I b/\aN w b o vs/\bA vs/\au w I cs vs
 | .agg cs,v=>∃vs:List Value,v= .agg vs.toArray/\bA vs/\ap w I L cs vs
 | .fn f caps,v=>∃vs:List Value,v= .func (.func f) #[] vs.toArray/\ap w I L caps vs
 | .tup cs,v=>∃vs:List Value,v= .tuple vs.toArray/\ap w I L cs vs
 | .mp id,v=>∃r,L[id]?=some (.m r)/\v= .map (some r)
 | .so id k off n,v=>∃l hd c,L[id]?=some l/\v= .slice hd n c/\n<=c/\(n=0\/∃b cap,l= .a (some b) cap/\hd=some ⟨b,off*k,none⟩/\cap=off+c)
 | .sc id n c,v=>∃l hd,L[id]?=some l/\l.hdr=some (hd,c)/\v= .slice hd n c
 | .dead,_=>True
def ap (w:World) (I:Nat->Prop) (L:List Lay):List FV->List Value->Prop
 |[],vs=>vs=[]
 |c::cs,vs=>∃v r,vs=v::r/\ai w I L c v/\ap w I L cs r
end
def b7 (w:World) (I:Nat->Prop) (L:List Lay):Ob->Lay->Prop
 | .cells t cs,l=>∃b,∃vs:List Value,l= .c b/\w.heap[b]?=some (.cells vs.toArray t (0,0))/\bA vs/\ap w I L cs vs
 | .arr e k xs,l=>(∃base cap vs,l= .a base cap/\w.ownsRow 0 e k (.slice (Lay.head base) xs.length cap) xs.length vs/\ax w I k xs vs)\/(∃hd,l= .z hd/\xs=[])
 | .frz k xs,l=>∃hd cap,l.hdr=some (hd,cap)/\ar w I (.list k xs) (.slice hd xs.length cap)
 | .map ks es,l=>∃r ents clock,l= .m r/\w.heap[r]?=some (.map ents clock)/\fB ents clock/\au w I ks (ents.toList.map (·.key))/\au w I es (ents.toList.map (·.val))
 | .fmap ks es,l=>∃r,l= .m r/\ar w I (.map ks es) (.map (some r))
 | .iter ks es seen,l=>∃b r ents,l= .c b/\w.heap[b]?=some (.mapIter (some r) ents.size seen.toArray ents.size)/\I r/\w.heap[r]?=some (.map ents ents.size)/\fB ents ents.size/\(∀i∈seen,i<ents.size)/\
  au w I ks (ents.toList.map (·.key))/\au w I es (ents.toList.map (·.val))
 | .gone,_=>True
def own:Ob->Lay->List Nat
 | .cells _ _,.c b=>[b]
 | .arr _ _ _,.a (some b) _=>[b]
 | .map _ _,.m r=>[r]
 | .iter _ _ _,.c b=>[b]
 |_,_=>[]
def aB:List Ob->List Lay->List Nat
 |o::S,l::L=>own o l++aB S L
 |_,_=>[]
theorem bg {w w':World} {b o:Nat} {vs:List Value} (h:w'.heap[b]?=w.heap[b]?) (hc:aN w b o vs):aN w' b o vs:=
 λj v hv=>(World.cell?_of_block (a:=⟨b,o+j,none⟩) h).trans (hc j v hv)
section
variable {w w':World} {I I':Nat->Prop}
mutual
theorem ar.mono (hw:∀b,I b->w'.heap[b]?=w.heap[b]?) (hI:∀b,I b->I' b):∀(x:D) (v:Value),ar w I x v->ar w' I' x v
 | .bool _,v,h=>by simpa[ar] using h
 | .int _ _,v,h=>by simpa[ar] using h
 | .str _,v,h=>by simpa[ar] using h
 | .flt _ _,v,h=>by simpa[ar] using h
 | .cpx _ _ _,v,h=>by simpa[ar] using h
 | .nil,v,h=>by simpa[ar] using h
 | .list k xs,v,h=>by
  simp only[ar] at h ⊢;obtain⟨base,c,hv,hle,h⟩:=h;refine⟨base,c,hv,hle,?_⟩;rcases h with h|⟨b,o,vs,hb,hi,hc,hr⟩
  ·exact .inl h
  ·exact .inr ⟨b,o,vs,hb,hI b hi,bg (hw b hi) hc,ax.mono hw hI k xs vs hr⟩
 | .agg cs,v,h=>by
  simp only[ar] at h ⊢;obtain⟨vs,hv,ho,h⟩:=h;exact⟨vs,hv,ho,au.mono hw hI cs vs h⟩
 | .nilp,v,h=>by simpa[ar] using h
 | .nili,v,h=>by simpa[ar] using h
 | .any,v,h=>by simpa[ar] using h
 | .nilm,v,h=>by simpa[ar] using h
 | .map ks es,v,h=>by
  simp only[ar] at h ⊢;obtain⟨r,ents,clock,hv,hi,hr,hb,h1,h2⟩:=h;exact⟨r,ents,clock,hv,hI r hi,(hw r hi).trans hr,hb,au.mono hw hI ks _ h1,au.mono hw hI es _ h2⟩
theorem au.mono (hw:∀b,I b->w'.heap[b]?=w.heap[b]?) (hI:∀b,I b->I' b):∀(cs:List D) (vs:List Value),au w I cs vs->au w' I' cs vs
 |[],vs,h=>by simpa[au] using h
 |c::cs,vs,h=>by
  simp only[au] at h ⊢;obtain⟨v,r,hv,h1,h2⟩:=h;exact⟨v,r,hv,ar.mono hw hI c v h1,au.mono hw hI cs r h2⟩
theorem ax.mono (hw:∀b,I b->w'.heap[b]?=w.heap[b]?) (hI:∀b,I b->I' b):∀(k:Nat) (cs:List D) (vs:List Value),ax w I k cs vs->ax w' I' k cs vs
 |k,[],vs,h=>by simpa[ax] using h
 |k,c::cs,vs,h=>by
  simp only[ax] at h ⊢;obtain⟨v,r,hv,hk,h1,h2⟩:=h;exact⟨v,r,hv,hk,ar.mono hw hI c v h1,ax.mono hw hI k cs r h2⟩
end
variable {L L':List Lay}
mutual
theorem ai.mono (hw:∀b,I b->w'.heap[b]?=w.heap[b]?) (hI:∀b,I b->I' b) (hL:∀(i:Nat) (l:Lay),L[i]?=some l->L'[i]?=some l):
 ∀(x:FV) (v:Value),ai w I L x v->ai w' I' L' x v
 | .d x,v,h=>by simp only[ai] at h ⊢;exact ar.mono hw hI x v h
 | .ref id off,v,h=>by
  simp only[ai] at h ⊢;obtain⟨b,hb,hv⟩:=h;exact⟨b,hL _ _ hb,hv⟩
 | .sl id n,v,h=>by
  simp only[ai] at h ⊢;obtain⟨l,b,c,hb,hv⟩:=h;exact⟨l,b,c,hL _ _ hb,hv⟩
 | .er id k i off,v,h=>by
  simp only[ai] at h ⊢;obtain⟨b,c,hb,hv⟩:=h;exact⟨b,c,hL _ _ hb,hv⟩
 | .dp cs,v,h=>by
  simp only[ai] at h ⊢;obtain⟨b,o,vs,hv,hi,hc,ho,hr⟩:=h;exact⟨b,o,vs,hv,hI b hi,bg (hw b hi) hc,ho,au.mono hw hI cs vs hr⟩
 | .agg cs,v,h=>by
  simp only[ai] at h ⊢;obtain⟨vs,hv,ho,hr⟩:=h;exact⟨vs,hv,ho,ap.mono hw hI hL cs vs hr⟩
 | .fn f cs,v,h=>by
  simp only[ai] at h ⊢;obtain⟨vs,hv,hr⟩:=h;exact⟨vs,hv,ap.mono hw hI hL cs vs hr⟩
 | .tup cs,v,h=>by
  simp only[ai] at h ⊢;obtain⟨vs,hv,hr⟩:=h;exact⟨vs,hv,ap.mono hw hI hL cs vs hr⟩
 | .mp id,v,h=>by
  simp only[ai] at h ⊢;obtain⟨r,hb,hv⟩:=h;exact⟨r,hL _ _ hb,hv⟩
 | .so id k off n,v,h=>by
  simp only[ai] at h ⊢;obtain⟨l,hd,c,hl,hv⟩:=h;exact⟨l,hd,c,hL _ _ hl,hv⟩
 | .sc id n c,v,h=>by
  simp only[ai] at h ⊢;obtain⟨l,hd,hl,hv⟩:=h;exact⟨l,hd,hL _ _ hl,hv⟩
 | .dead,v,h=>by simp only[ai]
theorem ap.mono (hw:∀b,I b->w'.heap[b]?=w.heap[b]?) (hI:∀b,I b->I' b) (hL:∀(i:Nat) (l:Lay),L[i]?=some l->L'[i]?=some l):
 ∀(xs:List FV) (vs:List Value),ap w I L xs vs->ap w' I' L' xs vs
 |[],vs,h=>by simpa[ap] using h
 |c::cs,vs,h=>by
  simp only[ap] at h ⊢;obtain⟨v,r,hv,h1,h2⟩:=h;exact⟨v,r,hv,ai.mono hw hI hL c v h1,ap.mono hw hI hL cs r h2⟩
end
theorem b7.mono (hw:∀b,I b->w'.heap[b]?=w.heap[b]?) (hI:∀b,I b->I' b) (hL:∀(i:Nat) (l:Lay),L[i]?=some l->L'[i]?=some l)
 {o:Ob} {l:Lay} (ho:∀b∈own o l,w'.heap[b]?=w.heap[b]?) (h:b7 w I L o l):b7 w' I' L' o l:=by
 cases o with
 |cells t cs=>
  obtain⟨b,vs,rfl,hb,h1,h2⟩:=h;exact⟨b,vs,rfl,(ho b (by simp[own])).trans hb,h1,ap.mono hw hI hL cs vs h2⟩
 |arr e k xs=>
  rcases h with⟨base,cap,vs,rfl,hr,h2⟩|⟨hd,rfl,h2⟩
  rotate_left
  ·exact .inr ⟨hd,rfl,h2⟩
  refine .inl ⟨base,cap,vs,rfl,⟨hr.1,?_⟩,ax.mono hw hI k xs vs h2⟩;rcases hr.2 with hn|⟨g,cp,cur,he,hb,hg,rest⟩
  ·exact .inl hn
  ·refine .inr ⟨g,cp,cur,he,hb,?_,rest⟩;cases base with
   |none=>simp[Lay.head] at he
   |some b=>
    simp[Lay.head] at he;obtain⟨rfl,rfl⟩:=he;exact(ho b (by simp[own])).trans hg
 |frz k xs=>
  obtain⟨base,cap,hl,hr⟩:=h;exact⟨base,cap,hl,ar.mono hw hI _ _ hr⟩
 |map ks es=>
  obtain⟨r,ents,clock,rfl,hb,hk,h1,h2⟩:=h;exact⟨r,ents,clock,rfl,(ho r (by simp[own])).trans hb,hk,au.mono hw hI _ _ h1,au.mono hw hI _ _ h2⟩
 |fmap ks es=>
  obtain⟨r,rfl,hr⟩:=h;exact⟨r,rfl,ar.mono hw hI _ _ hr⟩
 |iter ks es seen=>
  obtain⟨b,r,ents,rfl,hb,hi,hr,hk,hs,h1,h2⟩:=h;exact⟨b,r,ents,rfl,(ho b (by simp[own])).trans hb,hI r hi,(hw r hi).trans hr,hk,hs,au.mono hw hI _ _ h1,au.mono hw hI _ _ h2⟩
 |gone=>trivial
end
theorem ar.ones {w:World} {I:Nat->Prop} {x:D} {v:Value} (h:ar w I x v):bA v.cells.toList:=by
 cases x<;>simp only[ar] at h;case agg=>obtain⟨vs,rfl,ho,_⟩:=h;simpa[Value.cells] using ho
 case list=>obtain⟨b,c,rfl,_⟩:=h;simp[Value.cells,bA,Value.oneCell']
 case any=>obtain⟨t,u,rfl⟩:=h;simp[Value.cells,bA,Value.oneCell']
 case map=>obtain⟨r,e,c,rfl,_⟩:=h;simp[Value.cells,bA,Value.oneCell']
 all_goals(subst h;simp[Value.cells,bA,Value.oneCell'])
theorem ar.cells {w:World} {I:Nat->Prop} {x:D} {v:Value} (h:ar w I x v):au w I x.cs v.cells.toList:=by
 cases x with
 |agg cs=>
  simp only[ar] at h;obtain⟨vs,rfl,_,hr⟩:=h;simpa[D.cs,Value.cells] using hr
 |_=>
  have hv:v.cells.toList=[v]:=by
   simp only[ar] at h;first
    |(subst h;rfl)
    |(obtain⟨_,_,rfl,_⟩:=h;rfl)
    |(obtain⟨_,_,rfl⟩:=h;rfl)
    |(obtain⟨_,_,_,rfl,_⟩:=h;rfl)
  simp only[D.cs,au];exact⟨v,[],hv,h,rfl⟩
theorem au.length {w:World} {I:Nat->Prop}:∀ {cs:List D} {vs:List Value},au w I cs vs->vs.length=cs.length
 |[],vs,h=>by simp only[au] at h;subst h;rfl
 |c::cs,vs,h=>by
  simp only[au] at h;obtain⟨v,r,rfl,_,h2⟩:=h;simp[au.length h2]
theorem au.get {w:World} {I:Nat->Prop}:∀ {cs:List D} {vs:List Value},au w I cs vs->∀(i:Nat) (c:D),cs[i]?=some c->∃v,vs[i]?=some v/\ar w I c v
 |[],vs,h,i,c,hc=>by simp at hc
 |c::cs,vs,h,i,x,hx=>by
  simp only[au] at h;obtain⟨v,r,rfl,h1,h2⟩:=h;cases i with
  |zero=>simp at hx;subst hx;exact⟨v,rfl,h1⟩
  |succ i=>simpa using h2.get i x (by simpa using hx)
theorem au.drop {w:World} {I:Nat->Prop}:∀ {cs:List D} {vs:List Value} (n:Nat),au w I cs vs->au w I (cs.drop n) (vs.drop n)
 |_,_,0,h=>by simpa using h
 |[],vs,n+1,h=>by simp only[au] at h;subst h;simp[au]
 |c::cs,vs,n+1,h=>by
  simp only[au] at h;obtain⟨v,r,rfl,_,h2⟩:=h;simpa using h2.drop n
theorem au.take {w:World} {I:Nat->Prop}:∀ {cs:List D} {vs:List Value} (n:Nat),au w I cs vs->au w I (cs.take n) (vs.take n)
 |_,_,0,_=>by simp[au]
 |[],vs,n+1,h=>by simp only[au] at h;subst h;simp[au]
 |c::cs,vs,n+1,h=>by
  simp only[au] at h;obtain⟨v,r,rfl,h1,h2⟩:=h;simp only[List.take_succ_cons,au];exact⟨v,r.take n,rfl,h1,h2.take n⟩
theorem ap.length {w:World} {I:Nat->Prop} {L:List Lay}:∀ {cs:List FV} {vs:List Value},ap w I L cs vs->vs.length=cs.length
 |[],vs,h=>by simp only[ap] at h;subst h;rfl
 |c::cs,vs,h=>by
  simp only[ap] at h;obtain⟨v,r,rfl,_,h2⟩:=h;simp[ap.length h2]
theorem ap.get {w:World} {I:Nat->Prop} {L:List Lay}:∀ {cs:List FV} {vs:List Value},ap w I L cs vs->∀(i:Nat) (c:FV),cs[i]?=some c->∃v,vs[i]?=some v/\ai w I L c v
 |[],vs,h,i,c,hc=>by simp at hc
 |c::cs,vs,h,i,x,hx=>by
  simp only[ap] at h;obtain⟨v,r,rfl,h1,h2⟩:=h;cases i with
  |zero=>simp at hx;subst hx;exact⟨v,rfl,h1⟩
  |succ i=>simpa using h2.get i x (by simpa using hx)
theorem ap.drop {w:World} {I:Nat->Prop} {L:List Lay}:∀ {cs:List FV} {vs:List Value} (n:Nat),ap w I L cs vs->ap w I L (cs.drop n) (vs.drop n)
 |_,_,0,h=>by simpa using h
 |[],vs,n+1,h=>by simp only[ap] at h;subst h;simp[ap]
 |c::cs,vs,n+1,h=>by
  simp only[ap] at h;obtain⟨v,r,rfl,_,h2⟩:=h;simpa using h2.drop n
theorem ap.take {w:World} {I:Nat->Prop} {L:List Lay}:∀ {cs:List FV} {vs:List Value} (n:Nat),ap w I L cs vs->ap w I L (cs.take n) (vs.take n)
 |_,_,0,_=>by simp[ap]
 |[],vs,n+1,h=>by simp only[ap] at h;subst h;simp[ap]
 |c::cs,vs,n+1,h=>by
  simp only[ap] at h;obtain⟨v,r,rfl,h1,h2⟩:=h;simp only[List.take_succ_cons,ap];exact⟨v,r.take n,rfl,h1,h2.take n⟩
theorem ap.set {w:World} {I:Nat->Prop} {L:List Lay}:∀ {cs:List FV} {vs:List Value} (n:Nat) {x:FV} {v:Value},ap w I L cs vs->ai w I L x v->ap w I L (cs.set n x) (vs.set n v)
 |[],vs,n,_,_,h,_=>by simp only[ap] at h;subst h;simp[ap]
 |c::cs,vs,n,x,v,h,hx=>by
  simp only[ap] at h;obtain⟨u,r,rfl,h1,h2⟩:=h;cases n with
  |zero=>simp only[List.set_cons_zero,ap];exact⟨v,r,rfl,hx,h2⟩
  |succ n=>simp only[List.set_cons_succ,ap];exact⟨u,r.set n v,rfl,h1,h2.set n hx⟩
theorem ap.append {w:World} {I:Nat->Prop} {L:List Lay}:∀ {cs ds:List FV} {vs us:List Value},ap w I L cs vs->ap w I L ds us->ap w I L (cs++ds) (vs++us)
 |[],ds,vs,us,h,h'=>by simp only[ap] at h;subst h;simpa using h'
 |c::cs,ds,vs,us,h,h'=>by
  simp only[ap] at h;obtain⟨v,r,rfl,h1,h2⟩:=h;simp only[List.cons_append,ap];exact⟨v,r++us,rfl,h1,h2.append h'⟩
def allD:List FV->Option (List D)
 |[]=>some []
 | .d x::r=>(allD r).map (x:: ·)
 |_::_=>none
theorem ap.allD {w:World} {I:Nat->Prop} {L:List Lay}:∀ {cs:List FV} {vs:List Value} {ds:List D},ap w I L cs vs->allD cs=some ds->au w I ds vs
 |[],vs,ds,h,hd=>by simp only[ap] at h;subst h;simp[Pay.allD] at hd;subst hd;simp[au]
 |c::cs,vs,ds,h,hd=>by
  simp only[ap] at h;obtain⟨v,r,rfl,h1,h2⟩:=h;cases c<;>simp[Pay.allD] at hd;obtain⟨ds',hd',rfl⟩:=hd;simp only[ai] at h1;simp only[au];exact⟨v,r,rfl,h1,h2.allD hd'⟩
theorem au.toV {w:World} {I:Nat->Prop} {L:List Lay}:∀ {cs:List D} {vs:List Value},au w I cs vs->ap w I L (cs.map .d) vs
 |[],vs,h=>by simp only[au] at h;subst h;simp[ap]
 |c::cs,vs,h=>by
  simp only[au] at h;obtain⟨v,r,rfl,h1,h2⟩:=h;simp only[List.map_cons,ap];exact⟨v,r,rfl,by simpa only[ai] using h1,h2.toV⟩
theorem ax.length {w:World} {I:Nat->Prop} {k:Nat}:∀ {xs:List D} {vs:List Value},ax w I k xs vs->vs.length=xs.length*k
 |[],vs,h=>by simp only[ax] at h;subst h;simp
 |x::xs,vs,h=>by
  simp only[ax] at h;obtain⟨v,r,rfl,hk,_,h2⟩:=h;simp[hk,h2.length,Nat.succ_mul,Nat.add_comm]
theorem ax.get {w:World} {I:Nat->Prop} {k:Nat}:∀ {xs:List D} {vs:List Value},ax w I k xs vs->∀(i:Nat) (x:D),xs[i]?=some x->
 ∃v,ar w I x v/\v.cells.size=k/\(vs.drop (i*k)).take k=v.cells.toList
 |[],vs,h,i,c,hc=>by simp at hc
 |y::xs,vs,h,i,x,hx=>by
  simp only[ax] at h;obtain⟨v,r,rfl,hk,h1,h2⟩:=h;cases i with
  |zero=>
   simp at hx;subst hx;exact⟨v,h1,hk,by simp[<-hk]⟩
  |succ i=>
   obtain⟨u,hu,hku,hd⟩:=h2.get i x (by simpa using hx)
   refine⟨u,hu,hku,?_⟩;rw[<-hd,Nat.succ_mul,Nat.add_comm,<-List.drop_drop];congr 2
   rw[<-hk,<-Array.length_toList,List.drop_left]
theorem ax.append {w:World} {I:Nat->Prop} {k:Nat}:∀ {xs ys:List D} {vs us:List Value},ax w I k xs vs->ax w I k ys us->ax w I k (xs++ys) (vs++us)
 |[],ys,vs,us,h,h'=>by simp only[ax] at h;subst h;simpa using h'
 |x::xs,ys,vs,us,h,h'=>by
  simp only[ax] at h;obtain⟨v,r,rfl,hk,h1,h2⟩:=h;simp only[List.cons_append,ax];exact⟨v,r++us,by simp,hk,h1,h2.append h'⟩
theorem ax.take {w:World} {I:Nat->Prop} {k:Nat}:∀ {xs:List D} {vs:List Value} (n:Nat),ax w I k xs vs->ax w I k (xs.take n) (vs.take (n*k))
 |_,_,0,_=>by simp[ax]
 |[],vs,n+1,h=>by simp only[ax] at h;subst h;simp[ax]
 |x::xs,vs,n+1,h=>by
  simp only[ax] at h;obtain⟨v,r,rfl,hk,h1,h2⟩:=h;simp only[List.take_succ_cons,ax];refine⟨v,r.take (n*k),?_,hk,h1,h2.take n⟩;rw[List.take_append,Array.length_toList,hk,Nat.succ_mul,Nat.add_sub_cancel,List.take_of_length_le (by simp[hk])]
theorem ax.drop {w:World} {I:Nat->Prop} {k:Nat}:∀ {xs:List D} {vs:List Value} (n:Nat),ax w I k xs vs->ax w I k (xs.drop n) (vs.drop (n*k))
 |_,_,0,h=>by simpa using h
 |[],vs,n+1,h=>by simp only[ax] at h;subst h;simp[ax]
 |x::xs,vs,n+1,h=>by
  simp only[ax] at h;obtain⟨v,r,rfl,hk,h1,h2⟩:=h;have:=h2.drop n;rw[List.drop_succ_cons,Nat.succ_mul,Nat.add_comm (n*k) k,<-List.drop_drop];have e:(v.cells.toList++r).drop k=r:=by rw[<-hk,<-Array.length_toList,List.drop_left]
  rw[e];exact this
theorem ax.set {w:World} {I:Nat->Prop} {k:Nat}:∀ {xs:List D} {vs:List Value} (i:Nat) {x:D} {v:Value},ax w I k xs vs->i<xs.length->ar w I x v->v.cells.size=k->
 ax w I k (xs.set i x) (vs.take (i*k)++v.cells.toList++vs.drop (i*k+k))
 |[],vs,i,x,v,h,hi,_,_=>by simp at hi
 |y::xs,vs,i,x,v,h,hi,hx,hk=>by
  simp only[ax] at h;obtain⟨u,r,rfl,hku,h1,h2⟩:=h;cases i with
  |zero=>
   simp only[List.set_cons_zero,ax];refine⟨v,r,?_,hk,hx,h2⟩;simp only[Nat.zero_mul,List.take_zero,List.nil_append,Nat.zero_add];congr 1
   rw[<-hku,<-Array.length_toList,List.drop_left]
  |succ i=>
   have:=h2.set i (by simpa using hi) hx hk
   simp only[List.set_cons_succ,ax];refine⟨u,_,?_,hku,h1,this⟩;have e1:(i+1)*k=u.cells.toList.length+i*k:=by rw[Array.length_toList,hku,Nat.succ_mul,Nat.add_comm]
   rw[e1,List.take_length_add_append,Nat.add_assoc,List.drop_length_add_append];simp[List.append_assoc]
inductive GV where
 |tab (k:IntKind) (zs:List Int)
 |iface
 |int
def GV.on:GV->Option Obj->Prop
 | .tab k zs,o=>∃t fr,o=some (.cells (zs.map λz=>Value.int k z).toArray t fr)
 | .iface,o=>∃tp p t fr,o=some (.cells #[.iface tp p] t fr)
 | .int,o=>∃m t fr,o=some (.cells #[.int .i64 m] t fr)
def gT:List (Nat×GV):=[(2,.int),(3,.iface),(4,.iface),(7,.tab .u64 [1,10,100,1000,10000,100000,1000000,10000000,100000000,1000000000,10000000000,100000000000,1000000000000,10000000000000,100000000000000,1000000000000000,10000000000000000,100000000000000000,1000000000000000000,10000000000000000000])]
def GOk (w:World) (I:Nat->Prop):Prop:=∀p∈gT,I p.1/\p.2.on w.heap[p.1]?
structure Imm (w:World) (I:Nat->Prop):Prop where
 lt:∀b,I b->b<w.heap.size
 gl:GOk w I
instance {w:World} {I:Nat->Prop}:CoeFun (Imm w I) λ_=>∀b,I b->b<w.heap.size:=⟨Imm.lt⟩
theorem Imm.mono {w w':World} {I:Nat->Prop} (h:Imm w I) (hw:∀b,I b->w'.heap[b]?=w.heap[b]?) (hsz:w.heap.size<=w'.heap.size):Imm w' I:=
 ⟨λb hb=>Nat.lt_of_lt_of_le (h.lt b hb) hsz,λp hp=>⟨(h.gl p hp).1,by rw[hw _ (h.gl p hp).1];exact(h.gl p hp).2⟩⟩
theorem Imm.more {w:World} {I I':Nat->Prop} (h:Imm w I) (hI:∀b,I b->I' b) (hlt:∀b,I' b->b<w.heap.size):Imm w I':=
 ⟨hlt,λp hp=>⟨hI _ (h.gl p hp).1,(h.gl p hp).2⟩⟩
structure St where
 env:List (Nat×FV)
 S:List Ob
 nt:Nat
 pin:Nat
def get:List (Nat×FV)->Nat->Option FV
 |[],_=>none
 |(s,v)::r,t=>if s=t then some v else get r t
structure SR (w:World) (I:Nat->Prop) (L:List Lay) (s:St) (a:Act):Prop where
 env:∀t x,get s.env t=some x->ai w I L x (a.tmps.getD t undef)
 nt:a.tmps.size=s.nt
 len:L.length=s.S.length
 obs:∀(i:Nat) (o:Ob) (l:Lay),s.S[i]?=some o->L[i]?=some l->b7 w I L o l
 nodup:(aB s.S L).Nodup
 sep:∀b∈aB s.S L,¬I b/\b<w.heap.size
 imm:Imm w I
 defers:a.defers=[]
structure Evo (w:World) (I:Nat->Prop) (A:List Nat) (w':World) (I':Nat->Prop) (A':List Nat):Prop where
 os:w'.os=w.os
 tape:w'.tape=w.tape
 output:w'.output=w.output
 size:w.heap.size<=w'.heap.size
 keep:∀b,b<w.heap.size->b∉A->w'.heap[b]?=w.heap[b]?
 imm:∀b,I b->I' b
 immNew:∀b,I' b->I b\/b∈A\/w.heap.size<=b
 own:∀b∈A',b∈A\/w.heap.size<=b
theorem Evo.refl (w:World) (I:Nat->Prop) (A:List Nat):Evo w I A w I A:=
 ⟨rfl,rfl,rfl,Nat.le_refl _,λ_ _ _=>rfl,λ_ h=>h,λ_ h=> .inl h,λ_ h=> .inl h⟩
theorem Evo.trans {w w1 w2:World} {I I1 I2:Nat->Prop} {A A1 A2:List Nat} (h:Evo w I A w1 I1 A1) (k:Evo w1 I1 A1 w2 I2 A2):Evo w I A w2 I2 A2 where
 os:=k.os.trans h.os
 tape:=k.tape.trans h.tape
 output:=k.output.trans h.output
 size:=Nat.le_trans h.size k.size
 keep:=λb hb hA=>(k.keep b (Nat.lt_of_lt_of_le hb h.size) (λh1=>by
  rcases h.own b h1 with h2|h2
  ·exact hA h2
  ·omega)).trans (h.keep b hb hA)
 imm:=λb hb=>k.imm b (h.imm b hb)
 immNew:=λb hb=>by
  rcases k.immNew b hb with h1|h1|h1
  ·exact h.immNew b h1
  ·rcases h.own b h1 with h2|h2
   ·exact .inr (.inl h2)
   ·exact .inr (.inr h2)
  ·exact .inr (.inr (Nat.le_trans h.size h1))
 own:=λb hb=>by
  rcases k.own b hb with h1|h1
  ·exact h.own b h1
  ·exact .inr (Nat.le_trans h.size h1)
structure bq (w:World) (I:Nat->Prop) (L:List Lay) (s:St) (w':World) (I':Nat->Prop) (L':List Lay) (s':St):Prop where
 evo:Evo w I (aB s.S L) w' I' (aB s'.S L')
 pin:s'.pin=s.pin
 lay:∀i:Nat,i<s.pin->L'[i]?=L[i]?
theorem bq.refl (w:World) (I:Nat->Prop) (L:List Lay) (s:St):bq w I L s w I L s:=⟨Evo.refl _ _ _,rfl,λ_ _=>rfl⟩
theorem bq.trans {w w1 w2:World} {I I1 I2:Nat->Prop} {L L1 L2:List Lay} {s s1 s2:St} (h:bq w I L s w1 I1 L1 s1) (k:bq w1 I1 L1 s1 w2 I2 L2 s2):bq w I L s w2 I2 L2 s2:=
 ⟨h.evo.trans k.evo,k.pin.trans h.pin,λi hi=>(k.lay i (h.pin▸hi)).trans (h.lay i hi)⟩
def mY (w:World) (I:Nat->Prop) (L:List Lay) (s:St) (Q:Exit->St->Prop) (e:Exit) (a':Act) (w':World):Prop:=
 ∃s' I' L',Q e s'/\SR w' I' L' s' a'/\bq w I L s w' I' L' s'
theorem mY.from {w w1:World} {I I1:Nat->Prop} {L L1:List Lay} {s s1:St} {Q:Exit->St->Prop} {e:Exit} {a':Act} {w':World}
 (h:bq w I L s w1 I1 L1 s1) (p:mY w1 I1 L1 s1 Q e a' w'):mY w I L s Q e a' w':=by
 obtain⟨s',I',L',q,r,t⟩:=p;exact⟨s',I',L',q,r,h.trans t⟩
def WpC (P:Program) (c:Code) (s:St) (Q:Exit->St->Prop):Prop:=
 ∀w I L a,SR w I L s a->c.wp P (mY w I L s Q) a w
def WpO (P:Program) (all:Array Oper) (rest:List Oper) (s:St) (Q:Exit->St->Prop):Prop:=
 ∀w I L a,SR w I L s a->wpList P all (mY w I L s Q) rest a w
theorem ue {P:Program} {o:Oper} {a:Act} {n n':Act->World->Prop} {Q Q':Exit->Act->World->Prop} (hn:∀a w,n a w->n' a w) (hQ:∀e a w,Q e a w->Q' e a w)
 {r:Result Next} (h:o.upon P a n Q r):o.upon P a n' Q' r:=by
 unfold Oper.upon at h ⊢;split at h
 ·exact hn _ _ h
 ·exact hn _ _ h
 ·exact hn _ _ h
 ·exact h.mono λe w hw=>by
   cases e with
   |returned v=>exact hn _ _ hw
   |panicked c=>exact hQ _ _ _ hw
   |outgrown=>obtain⟨a₀,w₀,q⟩:=hw;exact⟨a₀,w₀,hQ _ _ _ q⟩
 ·exact h.mono λv w hw=>hn _ _ hw
 ·exact hQ _ _ _ h
 ·exact h.elim
theorem bN {P:Program} {all:Array Oper} {Q Q':Exit->Act->World->Prop} (hQ:∀e a w,Q e a w->Q' e a w):∀(l:List Oper) (a:Act) (w:World),wpList P all Q l a w->wpList P all Q' l a w
 |[],a,w,h=>hQ _ _ _ h
 |o::l,a,w,h=>by
  unfold wpList at h ⊢;split
  ·rename_i hw;rw[if_pos hw] at h;rcases h with h|⟨h1,a₀,w₀,h2⟩
   ·exact .inl (ue (bN hQ l) hQ h)
   ·exact .inr ⟨h1,a₀,w₀,hQ _ _ _ h2⟩
  ·rename_i hw;rw[if_neg hw] at h;exact bN hQ l _ _ h
theorem WpC.mono {P:Program} {c:Code} {s:St} {Q Q':Exit->St->Prop} (h:WpC P c s Q) (hq:∀e s,Q e s->Q' e s):WpC P c s Q':=
 λw I L a hs=>wp_mono (h w I L a hs) λ_ _ _ ⟨s',I',L',q,r⟩=>⟨s',I',L',hq _ _ q,r⟩
theorem WpO.mono {P:Program} {all:Array Oper} {rest:List Oper} {s:St} {Q Q':Exit->St->Prop} (h:WpO P all rest s Q) (hq:∀e s,Q e s->Q' e s):WpO P all rest s Q':=
 λw I L a hs=>bN (λ_ _ _ ⟨s',I',L',q,r⟩=>⟨s',I',L',hq _ _ q,r⟩) _ _ _ (h w I L a hs)
section
variable {P:Program} {s:St} {Q:Exit->St->Prop}
theorem ep {w:World} {I:Nat->Prop} {L:List Lay} {a:Act} {e:Exit} (hs:SR w I L s a) (h:Q e s):mY w I L s Q e a w:=⟨s,I,L,h,hs,bq.refl _ _ _ _⟩
theorem WpC.skip (h:Q .normal s):WpC P .skip s Q:=λ_ _ _ _ hs=>wp_skip (ep hs h)
theorem WpC.label {l:Nat} (h:Q .normal s):WpC P (.label l) s Q:=λ_ _ _ _ hs=>wp_label (ep hs h)
theorem WpC.exit {id:Nat} (h:Q (.exit id) s):WpC P (.exit id) s Q:=λ_ _ _ _ hs=>wp_exit (ep hs h)
theorem WpC.goto {l:Nat} (h:Q (.goto l) s):WpC P (.goto l) s Q:=λ_ _ _ _ hs=>wp_goto (ep hs h)
theorem WpC.ret (h:Q .ret s):WpC P .ret s Q:=λ_ _ _ _ hs=>wp_ret (ep hs h)
def aj (P:Program) (y:Code) (Q:Exit->St->Prop):Exit->St->Prop
 | .normal,s=>WpC P y s Q
 |e,s=>Q e s
theorem WpC.seq {x y:Code} (h:WpC P x s (aj P y Q)):WpC P (.seq x y) s Q:=λw I L a hs=>by
 refine wp_seq (wp_mono (h w I L a hs) λe a1 w1 hp=>?_)
 obtain⟨s1,I1,L1,q,r,t⟩:=hp;cases e with
 |normal=>exact wp_mono (q w1 I1 L1 a1 r) λ_ _ _ p=>p.from t
 |_=>exact⟨s1,I1,L1,q,r,t⟩
def evB (s:St):Operand->Option Bool
 | .tmp t=>match get s.env t with
  |some (.d (.bool b))=>some b
  |_=>none
 | .const (.bool b)=>some b
 |_=>none
theorem SR.evB {w:World} {I:Nat->Prop} {L:List Lay} {a:Act} (hs:SR w I L s a) {c:Operand} {b:Bool} (h:evB s c=some b):a.eval c= .bool b:=by
 unfold Pay.evB at h;split at h
 ·split at h
  ·rename_i heq;have:=hs.env _ _ heq;simp only[ai,ar] at this;simp at h;subst h;simpa[Act.eval] using this
  ·cases h
 ·simp at h;subst h;rfl
 ·cases h
theorem WpC.cond {c:Operand} {x y:Code} (b:Bool) (hc:Pay.evB s c=some b) (h:WpC P (if b=true then x else y) s Q):WpC P (.cond c x y) s Q:=λw I L a hs=>
 wp_cond (hs.evB hc) (h w I L a hs)
theorem WpC.condT {c:Operand} {x y:Code} (hc:Pay.evB s c=some true) (h:WpC P x s Q):WpC P (.cond c x y) s Q:=WpC.cond true hc (by simpa using h)
theorem WpC.condF {c:Operand} {x y:Code} (hc:Pay.evB s c=some false) (h:WpC P y s Q):WpC P (.cond c x y) s Q:=WpC.cond false hc (by simpa using h)
theorem WpC.condP {c:Operand} {x y:Code} (b:Bool) (hc:Pay.evB s c=some b) (ht:b=true->WpC P x s Q) (hf:b=false->WpC P y s Q):WpC P (.cond c x y) s Q:=by
 cases b
 ·exact .condF hc (hf rfl)
 ·exact .condT hc (ht rfl)
theorem WpC.condD {c:Operand} {x y:Code} (p:Prop) [Decidable p] (hc:Pay.evB s c=some (decide p)) (ht:p->WpC P x s Q) (hf:¬p->WpC P y s Q):WpC P (.cond c x y) s Q:=by
 by_cases hp:p
 ·exact .condT (by simpa[hp] using hc) (ht hp)
 ·exact .condF (by simpa[hp] using hc) (hf hp)
def aa (id:Nat) (Q:Exit->St->Prop):Exit->St->Prop
 | .exit id',s=>if id'=id then Q .normal s else Q (.exit id') s
 |e,s=>Q e s
theorem WpC.block {id:Nat} {c:Code} (h:WpC P c s (aa id Q)):WpC P (.block id c) s Q:=λw I L a hs=>by
 refine wp_block (wp_mono (h w I L a hs) λe a1 w1 hp=>?_)
 obtain⟨s1,I1,L1,q,r,t⟩:=hp;cases e with
 |exit id'=>
  by_cases hid:id'=id
  ·simp only[aa,hid,if_true] at q;simp only[Exit.inBlock,hid,if_true];exact⟨s1,I1,L1,q,r,t⟩
  ·simp only[aa,hid,if_false] at q;simp only[Exit.inBlock,hid,if_false];exact⟨s1,I1,L1,q,r,t⟩
 |_=>exact⟨s1,I1,L1,q,r,t⟩
theorem WpC.loop {c:Code} (J:Nat->St->Prop) (n:Nat) (h0:J n s)
 (hr:∀n s,J n s->WpC P c s (λe s'=>match e with| .normal=>∃m,m<n/\J m s'|e=>Q e s')):WpC P (.loop c) s Q:=by
 intro w I L a hs b k cs;have key:∀n s1 w1 I1 L1 a1,J n s1->SR w1 I1 L1 s1 a1->
  ∃e a' w',mY w1 I1 L1 s1 Q e a' w'/\Arrives P (lone (b.at a1 (.code c:: .inLoop c::k)) cs w1) b k cs e a' w':=by
  intro n;induction n using Nat.strongRecOn with
  |_ n ih=>
   intro s1 w1 I1 L1 a1 hj hs1;obtain⟨e,a2,w2,⟨s2,I2,L2,q,r,t⟩,harr⟩:=hr n s1 hj w1 I1 L1 a1 hs1 b (.inLoop c::k) cs;cases e with
   |normal=>
    obtain⟨m,hm,hj2⟩:=q;obtain⟨e3,a3,w3,p3,harr3⟩:=ih m hm s2 w2 I2 L2 a2 hj2 r;exact⟨e3,a3,w3,p3.from t,.of_steps (Steps.trans harr (.one step_inLoop)) harr3⟩
   |exit id=>exact⟨_,a2,w2,⟨s2,I2,L2,q,r,t⟩,.pass (x:= .inLoop c) rfl (λ_ _=> .inl (by simp)) harr⟩
   |goto l=>exact⟨_,a2,w2,⟨s2,I2,L2,q,r,t⟩,.pass (x:= .inLoop c) rfl (λ_ _=> .inl (by simp)) harr⟩
   |ret=>exact⟨_,a2,w2,⟨s2,I2,L2,q,r,t⟩,.pass (x:= .inLoop c) rfl (λ_ _=> .inl (by simp)) harr⟩
   |panic ch=>exact⟨_,a2,w2,⟨s2,I2,L2,q,r,t⟩,.pass (x:= .inLoop c) rfl (λ_ _=> .inl (by simp)) harr⟩
   |outgrown=>exact⟨_,a2,w2,⟨s2,I2,L2,q,r,t⟩,.pass (x:= .inLoop c) rfl (λ_ _=> .inl (by simp)) harr⟩
 obtain⟨e,a',w',hp,harr⟩:=key n s w I L a h0 hs;exact⟨e,a',w',hp,.of_steps (.one step_loop) harr⟩
end
end Go.Proofs.YtlhmejigmokbhaaGreatDoor.Pay
