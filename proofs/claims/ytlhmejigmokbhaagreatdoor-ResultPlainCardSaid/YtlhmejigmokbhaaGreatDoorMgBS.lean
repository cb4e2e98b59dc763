/- The texts LdA, LdB, RsR, RsS, one behind the other. No statement of the seed is proved here. -/
import Derived.Test.YtlhmejigmokbhaaGreatDoorMgxPayR
import Derived.Test.YtlhmejigmokbhaaGreatDoorMgO
import Derived.Test.YtlhmejigmokbhaaGreatDoorMgBQ
import Derived.Test.YtlhmejigmokbhaaGreatDoorMgBR
import Derived.Test.YtlhmejigmokbhaaGreatDoorRows
import Derived.HandedShaped
import Derived.LaidMore
import Derived.Lay
import Derived.Lib.LaidTab
import Derived.Stop.LaidErr
import Derived.Shelf.Vars
namespace Go
variable {H:Type} {enc:TypeId×Value->H}
theorem returnsInHanded_of_change_and_shaped {a:Assume} {C:Checked} {os:Os} {f:FuncId} {fn:Func} {s:ChangeSpec} {conds:List PathCond} {apart fresh handsOn again:Bool} {X:World->Array Value->Prop}
 (hX:∀(w w':World) (args:Array Value),w.heap=w'.heap->X w args->X w' args)
 (own:ownKnob C.prog.godebug=none) (started:os.Started) (noInit:C.prog.inits.idxOf? f=none) (hfn:C.prog.funcs[f]?=some fn)
 (witness:∃(w:World) (tape:Tape) (i:Input),w.os=os/\(w.forCall tape i).Shaped C.prog/\i.vars=[]/\Input.okWide C.prog (w.forCall tape i) .any w.heap.size f i/\
  ((s.pre enc C.prog fn conds apart (w.forCall tape i).memory i.args/\X (w.forCall tape i).memory i.args)/\sizedMet enc C.prog fn (OpenSpec.ofChange s) apart (w.forCall tape i).memory i.args)/\a.holds C.prog (lone (Frame.enter C.prog f i.args .normal) [] (w.forCall tape i)))
 (contract:∀(W:World) (base:Nat) (args:Array Value) (ds gs:List (DataW H)) (before:List MemPlace),
  (∀(j:Nat) t v,fn.params[j]?=some t->args[j]?=some v->Value.okWide C.prog W .any base t v)->
  DataW.Whole enc C.prog fn.params.toList s.vars apart W args.toList ds gs before->
  conds.all (PathCond.test C.prog ⟨fn.params.toList,ds,s.plain.varTypes C.prog,gs⟩)=true->
  (DataW.weightsEach C.prog (fn.params.toList++s.plain.varTypes C.prog) (ds++gs)).all (· <=reachBytes)=true->X W args->W.ShapedOpen C.prog->
  Calls C.prog f args W λe W'=>∃v,e= .returned v/\s.post enc C.prog fn apart fresh handsOn again W args v W'):
 ReturnsInHanded a C os f .any (λw args=>(s.pre enc C.prog fn conds apart w args/\X w args)/\sizedMet enc C.prog fn (OpenSpec.ofChange s) apart w args) (s.post enc C.prog fn apart fresh handsOn again):=by
 refine returnsInHanded_of_calls own started noInit witness ?_;intro w tape i _ hsh _ hok hpre hholds;obtain⟨_,_,_,fn',hfn',_,_,_,_,hval⟩:=hok;have e:fn'=fn:=Option.some.inj (hfn'.symm.trans hfn);subst e;obtain⟨⟨⟨ds,gs,before,hw,hc⟩,hx⟩,hz⟩:=hpre;have hw':=DataW.Whole.of_heap (w':=w.forCall tape i) (by rfl) hw
 refine(contract (w.forCall tape i) w.heap.size i.args ds gs before hval hw' hc (hz.weights hw) (hX _ _ _ (by rfl) hx) hsh).mono λe W' ⟨v,he,hp⟩=>?_
 subst he;exact ChangeSpec.post_blind hp
end Go
namespace Go.Proofs.YtlhmejigmokbhaaGreatDoor.Pay
open Go Go.RowKit
theorem lK {P:Program} {W:World} {name:String} {g:Nat} {cs:Array Value} (hg:P.globalNamed name=some g) (h:W.var? P name=some cs):∃t fr,W.heap[g]?=some (.cells cs t fr):=by
 simp only[World.var?,hg,Option.bind_some] at h;split at h
 ·rename_i c t fr he;cases h;exact⟨t,fr,he⟩
 ·cases h
end Go.Proofs.YtlhmejigmokbhaaGreatDoor.Pay
namespace Go.Proofs.YtlhmejigmokbhaaGreatDoor.Pay
open Go Go.RowKit
theorem sH: "*" ++ "errors.errorString" = "*errors.errorString" :=by decide
theorem wo (u:TypeId) (h:Tryz.prog.typeName? 3 u=some "*errors.errorString"):u=287:=
 typeName_ptr_named (nm:= "errors.errorString") (by rw[sH];kernel_rfl) (by kernel_rfl) (by decide) u (by rw[sH];exact h)
theorem xW {w:World} {g:Nat} {t:TypeId} {zero:Array Value} {k:IntKind} (h:w.ShapedOpen Tryz.prog) (hg:g<Tryz.prog.globals.size)
 (h0:((begin Tryz.prog (λ_ _=>0) default).world.heap[g]?).bind Obj.row?=some (zero,t)) (hz:zero.size=1) (hb:Tryz.prog.buildable t=true) (hc:Tryz.prog.cellTypes Tryz.prog.depth t=some [t]) (hu:Tryz.prog.underlying t=some (.int k)):
 ∃m t fr,w.heap[g]?=some (.cells #[.int k m] t fr):=by
 obtain⟨m,hm⟩:=cell_of_shapedOpen_int h hg h0 hz hb hc hu;obtain⟨cs,hh,hs,hr⟩:=h.1 g zero t hg h0;have h1:cs.size=1:=by omega
 have h2:cs[0]?=some (.int k m):=by simpa[World.cell?,hh] using hm
 have h3:cs= #[.int k m]:=by
  apply Array.ext
  ·simp[h1]
  ·intro i hi1 hi2;have:i=0:=by omega
   subst this;rw[Array.getElem?_eq_getElem hi1] at h2;simpa using Option.some.inj h2
 subst h3;exact⟨m,_,_,hh⟩
theorem gok {W:World} (hS:W.ShapedOpen Tryz.prog) {l1 l2 l3:List (String×DataW Unit)} (ht:laidMet Tryz.prog (("internal/strconv.uint64pow10",Rows.laid_internal_strconv_uint64pow10)::l1) W)
 (hr:laidMet Tryz.prog (("strconv.ErrRange",Rows.laid_strconv_ErrRange)::l2) W) (hs:laidMet Tryz.prog (("strconv.ErrSyntax",Rows.laid_strconv_ErrSyntax)::l3) W):GOk W (lt W):=by
 obtain⟨m,t0,f0,h0⟩:=xW (g:=2) (t:=3) (zero:= #[.int .i64 0]) (k:= .i64) hS (of_decide_eq_true (by kernel_rfl)) (by kernel_rfl) (by kernel_rfl) (by kernel_rfl) (by kernel_rfl) Tryz.underlying3
 have gt:Tryz.prog.globalNamed "internal/strconv.uint64pow10" =some 7:=by kernel_rfl
 have gr:Tryz.prog.globalNamed "strconv.ErrRange" =some 4:=by kernel_rfl
 have gs:Tryz.prog.globalNamed "strconv.ErrSyntax" =some 3:=by kernel_rfl
 have htab:=Lib.tabIs_of_head (k:= .u64) (zs:=Lib.pow10Tab) (t:=298) (e:=53) (n:=20) gt (by kernel_rfl) Tryz.underlying298 Tryz.underlying53 (by kernel_rfl) (by kernel_rfl) ht
 obtain⟨a1,s1,hv1,_⟩:=laid_sentinel hr gr (ti:=190) (by kernel_rfl) Tryz.underlying190 wo Tryz.underlying287 Tryz.underlying289 rfl rfl Tryz.underlying9 (by kernel_rfl) (by kernel_rfl)
 obtain⟨a2,s2,hv2,_⟩:=laid_sentinel hs gs (ti:=190) (by kernel_rfl) Tryz.underlying190 wo Tryz.underlying287 Tryz.underlying289 rfl rfl Tryz.underlying9 (by kernel_rfl) (by kernel_rfl)
 obtain⟨t3,f3,h3⟩:=lK gt htab;obtain⟨t1,f1,h1⟩:=lK gr hv1;obtain⟨t2,f2,h2⟩:=lK gs hv2;have hlt:∀ {b:Nat} {o:Obj},W.heap[b]?=some o->lt W b:=λh=>(Array.getElem?_eq_some_iff.1 h).1
 have key:∀p∈gT,p=(2,.int)\/p=(4,.iface)\/p=(3,.iface)\/p=(7,.tab .u64 Lib.pow10Tab):=by
  intro p hp;have e:gT=[(2,.int),(3,.iface),(4,.iface),(7,.tab .u64 Lib.pow10Tab)]:=by kernel_rfl
  rw[e] at hp;simp only[List.mem_cons,List.not_mem_nil,or_false] at hp;rcases hp with h|h|h|h
  ·exact .inl h
  ·exact .inr (.inr (.inl h))
  ·exact .inr (.inl h)
  ·exact .inr (.inr (.inr h))
 intro p hp;rcases key p hp with rfl|rfl|rfl|rfl
 ·exact⟨hlt h0,m,t0,f0,h0⟩
 ·exact⟨hlt h1,_,_,t1,f1,h1⟩
 ·exact⟨hlt h2,_,_,t2,f2,h2⟩
 ·exact⟨hlt h3,t3,f3,h3⟩
set_option linter.unusedVariables false
theorem rT {g t:Nat} {k:IntKind} {ds:List D} {a b:Nat} {z:List D} (h:bU tab (g+1) t ds) (ht:tab t=some ⟨.int k,a,b,z⟩):∃n,ds=[.int k n]/\k.min<=n/\n<=k.max:=by
 unfold bU at h;rw[ht] at h;exact h
theorem resultHeld_row {w:World} {e0 e1:List D} {v0 v1:Value} {i0 i1:TI} (y0:bU tab 8 53 e0) (y1:bU tab 8 2 e1) (t0:some i0=tab 53) (t1:some i1=tab 2)
 (z0:ar w (lt w) (eG i0 e0) v0) (z1:ar w (lt w) (eG i1 e1) v1) (hG:GOk w (lt w)):
 Calls Tryz.prog 6 #[v0,v1] w λe w'=>e= .returned (.bool true)/\Below w.heap.size w w':=by
 rw[lO] at t0;cases t0;rw[Jv] at t1;cases t1;obtain⟨i,rfl,hi0,hi1⟩:=rT y0 lO;obtain⟨j,rfl,hj0,hj1⟩:=rT y1 Jv;refine WpF.law (JA i j hi0) (λr S h=>h.1) (vs:=[v0,v1]) ?_ hG
 simp only[ap,ai];exact⟨v0,_,rfl,z0,v1,_,rfl,z1,rfl⟩
theorem resultPlain_row {w:World} {e0 e1 e2:List D} {v0 v1 v2:Value} {i0 i1 i2:TI} (y0:bU tab 8 53 e0) (y1:bU tab 8 53 e1) (y2:bU tab 8 57 e2) (t0:some i0=tab 53) (t1:some i1=tab 53) (t2:some i2=tab 57)
 (z0:ar w (lt w) (eG i0 e0) v0) (z1:ar w (lt w) (eG i1 e1) v1) (z2:ar w (lt w) (eG i2 e2) v2) (hG:GOk w (lt w)):
 Calls Tryz.prog 5 #[v0,v1,v2] w λe w'=>e= .returned (.bool true)/\Below w.heap.size w w':=by
 rw[lO] at t0 t1;cases t0;cases t1;rw[IJ] at t2;cases t2;obtain⟨i,rfl,hi0,hi1⟩:=rT y0 lO;obtain⟨j,rfl,hj0,hj1⟩:=rT y1 lO;obtain⟨n,rfl,hn0,hn1⟩:=rT y2 IJ;refine WpF.law (Jz i j n hi0 hj0 hn0) (λr S h=>h.1) (vs:=[v0,v1,v2]) ?_ hG
 simp only[ap,ai];exact⟨v0,_,rfl,z0,v1,_,rfl,z1,v2,_,rfl,z2,rfl⟩
theorem has_iR {g:Nat} {ds:List D} (h:bU tab (g+1) 3 ds):∃n,ds=[dI n]/\aC n:=by
 unfold bU at h;simp only[lP] at h;obtain⟨n,rfl,h1,h2⟩:=h;exact⟨n,rfl,h1,h2⟩
theorem map_of {α:Type} {f:α->D} {xs:List D} (h:∀x∈xs,∃o:α,x=f o):∃l:List α,xs=l.map f:=by
 induction xs with
 |nil=>exact⟨[],rfl⟩
 |cons x xs ih=>
  obtain⟨o,rfl⟩:=h x (by simp)
  obtain⟨l,rfl⟩:=ih λy hy=>h y (by simp[hy])
  exact⟨o::l,rfl⟩
theorem has_intsR {g:Nat} {ds:List D} (h:bU tab (g+2) 30 ds):∃l:List Int,ds=[.list 1 (l.map dI)]:=by
 unfold bU at h;simp only[vI,lP] at h;obtain⟨xs,rfl,hl,hx⟩:=h;obtain⟨l,rfl⟩:=map_of (f:=dI) λx hx'=>by
  obtain⟨ys,h1,rfl⟩:=hx x hx';obtain⟨n,rfl,_⟩:=has_iR h1;exact⟨n,rfl⟩
 exact⟨l,rfl⟩
theorem has_rws {g:Nat} {ds:List D} (h:bU tab (g+3) 22 ds):∃l:List Rw,l.length<=maxLen/\ds=[iG l]:=by
 unfold bU at h;simp only[Fa,vH] at h;obtain⟨xs,rfl,hl,hx⟩:=h;obtain⟨l,rfl⟩:=map_of (f:=Rw.enc) λx hx'=>by
  obtain⟨ys,h1,rfl⟩:=hx x hx';unfold bU at h1;simp only[vH,Fs] at h1;obtain⟨a,_,rfl,ha,b,_,rfl,hb,rfl⟩:=h1;obtain⟨n,rfl,_⟩:=has_iR ha;obtain⟨m,rfl,_⟩:=has_iR hb;exact⟨⟨n,m⟩,rfl⟩
 exact⟨l,by simpa using hl,rfl⟩
theorem has_fds {g:Nat} {ds:List D} (h:bU tab (g+3) 23 ds):∃l:List Fd,l.length<=maxLen/\ds=[eF l]:=by
 unfold bU at h;simp only[E_,sA] at h;obtain⟨xs,rfl,hl,hx⟩:=h;obtain⟨l,rfl⟩:=map_of (f:=Fd.enc) λx hx'=>by
  obtain⟨ys,h1,rfl⟩:=hx x hx';unfold bU at h1;simp only[sA,Fs] at h1;obtain⟨a,_,rfl,ha,b,_,rfl,hb,c,_,rfl,hc,rfl⟩:=h1;obtain⟨n,rfl,_⟩:=has_iR ha;obtain⟨m,rfl,_⟩:=has_iR hb;obtain⟨k,rfl,_⟩:=has_iR hc;exact⟨⟨n,m,k⟩,rfl⟩
 exact⟨l,by simpa using hl,rfl⟩
theorem has_sch {g:Nat} {ds:List D} (h:bU tab (g+4) 25 ds):∃(rows:List Rw) (funds:List Fd),rows.length<=maxLen/\funds.length<=maxLen/\ds=[iG rows,eF funds]:=by
 unfold bU at h;simp only[vJ,Fs] at h;obtain⟨a,_,rfl,ha,b,_,rfl,hb,rfl⟩:=h;obtain⟨rows,h1,rfl⟩:=has_rws ha;obtain⟨funds,h2,rfl⟩:=has_fds hb;exact⟨rows,funds,h1,h2,rfl⟩
theorem has_inp {g:Nat} {ds:List D} (h:bU tab (g+2) 27 ds):∃p:Inp,p.ok/\ds=p.cs:=by
 unfold bU at h;simp only[E9,Fs] at h;obtain⟨a,_,rfl,ha,b,_,rfl,hb,c,_,rfl,hc,d,_,rfl,hd,e,_,rfl,he,rfl⟩:=h;obtain⟨n1,rfl,h1⟩:=has_iR ha;obtain⟨n2,rfl,h2⟩:=has_iR hb;obtain⟨n3,rfl,h3⟩:=has_iR hc;obtain⟨n4,rfl,h4⟩:=has_iR hd;unfold bU at he;simp only[G0] at he;obtain⟨b,rfl⟩:=he;exact⟨⟨n1,n2,n3,n4,b⟩,⟨h1,h2,h3,h4⟩,rfl⟩
theorem has_sum {g:Nat} {ds:List D} (h:bU tab (g+2) 29 ds):∃p:Sm,ds=p.cs:=by
 unfold bU at h;simp only[E8,Fs] at h;obtain⟨a,_,rfl,ha,b,_,rfl,hb,c,_,rfl,hc,rfl⟩:=h;obtain⟨n1,rfl,_⟩:=has_iR ha;obtain⟨n2,rfl,_⟩:=has_iR hb;obtain⟨n3,rfl,_⟩:=has_iR hc;exact⟨⟨n1,n2,n3⟩,rfl⟩
theorem has_yr {g:Nat} {ds:List D} (h:bU tab (g+3) 32 ds):∃y:Yr,ds=y.cs:=by
 unfold bU at h;simp only[E7,Fs] at h;obtain⟨a,_,rfl,ha,b,_,rfl,hb,c,_,rfl,hc,d,_,rfl,hd,e,_,rfl,he,rfl⟩:=h;obtain⟨n1,rfl,_⟩:=has_iR ha;obtain⟨n2,rfl,_⟩:=has_iR hb;obtain⟨n3,rfl,_⟩:=has_iR hc;obtain⟨l1,rfl⟩:=has_intsR hd;obtain⟨l2,rfl⟩:=has_intsR he;exact⟨⟨n1,n2,n3,l1,l2⟩,rfl⟩
theorem has_ask {g:Nat} {ds:List D} (h:bU tab (g+5) 35 ds):∃(s:List UInt8) (rows:List Rw) (funds:List Fd) (prot:Int) (p:Inp) (ex:Sm) (y:Yr) (l:List Ord),p.ok/\ .agg ds=o7 s rows funds prot p ex y l:=by
 unfold bU at h;simp only[rF,Fs] at h;obtain⟨a,_,rfl,ha,b,_,rfl,hb,c,_,rfl,hc,d,_,rfl,hd,e,_,rfl,he,f,_,rfl,hf,k,_,rfl,hk,rfl⟩:=h;unfold bU at ha;simp only[GZ] at ha;obtain⟨s,rfl,_⟩:=ha;obtain⟨rows,funds,_,_,rfl⟩:=has_sch hb;obtain⟨prot,rfl,_⟩:=has_iR hc;obtain⟨p,hp,rfl⟩:=has_inp hd;obtain⟨ex,rfl⟩:=has_sum he;obtain⟨y,rfl⟩:=has_yr hf;obtain⟨l,_,_,rfl⟩:=xq hk;exact⟨s,rows,funds,prot,p,ex,y,l,hp,rfl⟩
theorem resultWhole_row {w:World} {e0:List D} {v0:Value} {i0:TI} (y0:bU tab 8 35 e0) (t0:some i0=tab 35) (z0:ar w (lt w) (eG i0 e0) v0) (hG:GOk w (lt w)):
 Calls Tryz.prog 3 #[v0] w λe w'=>e= .returned (.bool true)/\Below w.heap.size w w':=by
 rw[rF] at t0;cases t0;obtain⟨s,rows,funds,prot,p,ex,y,l,hp,he⟩:=has_ask y0;have z1:ar w (lt w) (.agg e0) v0:=z0;rw[he] at z1;refine WpF.law (j8 s rows funds prot p ex y l hp) (λr S h=>h.1) (vs:=[v0]) ?_ hG
 simp only[ap,ai];exact⟨v0,_,rfl,z1,rfl⟩
theorem resultTwice_row {w:World} {e0 e1:List D} {v0 v1:Value} {i0 i1:TI} (y0:bU tab 8 35 e0) (y1:bU tab 8 53 e1) (t0:some i0=tab 35) (t1:some i1=tab 53)
 (z0:ar w (lt w) (eG i0 e0) v0) (z1:ar w (lt w) (eG i1 e1) v1) (hG:GOk w (lt w)):
 Calls Tryz.prog 4 #[v0,v1] w λe w'=>e= .returned (.bool true)/\Below w.heap.size w w':=by
 rw[rF] at t0;cases t0;rw[lO] at t1;cases t1;obtain⟨s,rows,funds,prot,p,ex,y,l,hp,he⟩:=has_ask y0;obtain⟨i,rfl,hi0,hi1⟩:=rT y1 lO;have z2:ar w (lt w) (.agg e0) v0:=z0;rw[he] at z2;refine WpF.law (j9 s rows funds prot p ex y l i hp hi0) (λr S h=>h.1) (vs:=[v0,v1]) ?_ hG
 simp only[ap,ai];exact⟨v0,_,rfl,z2,v1,_,rfl,z1,rfl⟩
theorem resultYear_row {w:World} {e0 e1 e2:List D} {v0 v1 v2:Value} {i0 i1 i2:TI} (y0:bU tab 8 25 e0) (y1:bU tab 8 53 e1) (y2:bU tab 8 53 e2) (t0:some i0=tab 25) (t1:some i1=tab 53) (t2:some i2=tab 53)
 (z0:ar w (lt w) (eG i0 e0) v0) (z1:ar w (lt w) (eG i1 e1) v1) (z2:ar w (lt w) (eG i2 e2) v2) (hG:GOk w (lt w)):
 Calls Tryz.prog 7 #[v0,v1,v2] w λe w'=>e= .returned (.bool true)/\Below w.heap.size w w':=by
 rw[vJ] at t0;cases t0;rw[lO] at t1 t2;cases t1;cases t2;obtain⟨rows,funds,h1,h2,rfl⟩:=has_sch y0;obtain⟨i,rfl,hi0,hi1⟩:=rT y1 lO;obtain⟨j,rfl,hj0,hj1⟩:=rT y2 lO;refine WpF.law (kU rows funds i j hi0 hj0 h1 h2) (λr S h=>h.1) (vs:=[v0,v1,v2]) ?_ hG
 simp only[ap,ai];exact⟨v0,_,rfl,z0,v1,_,rfl,z1,v2,_,rfl,z2,rfl⟩
end Go.Proofs.YtlhmejigmokbhaaGreatDoor.Pay
