/- The texts LxA, one behind the other. No statement of the seed is proved here. -/
import Derived.Test.YtlhmejigmokbhaaGreatDoorMgO
import Derived.Test.YtlhmejigmokbhaaGreatDoorMgX
import Derived.Shelf.Strings.Replace
import Derived.Shelf.Strings.Prefix
import Derived.Shelf.Small.Strs
import Derived.Shelf.Small.Wraps
namespace Go.Proofs.YtlhmejigmokbhaaGreatDoor.Pay
open Go Go.RowKit Go.Shelf Go.Proofs
set_option linter.unusedVariables false
set_option linter.unusedSimpArgs false
theorem szB (l:List UInt8):(⟨l.toArray⟩:ByteArray).size=l.length:=by simp[ByteArray.size]
def gi:Go.Shelf.Ren:=⟨λ|154=>109|138=>147|165=>148|143=>149|166=>150|197=>151|169=>152|195=>182|218=>183|240=>184|241=>185|219=>186|260=>187|276=>197|277=>198|217=>113|225=>199|224=>200|267=>201|266=>155|314=>208|n=>n,λ|9=>9|3=>3|4=>4|72=>235|0=>0|76=>191|105=>237|21=>21|5=>5|70=>232|20=>20|37=>233|75=>190|127=>263|164=>273|46=>180|119=>276|139=>279|138=>278|146=>290|51=>223|80=>239|n=>n,λ|1=>2|3=>5|4=>6|n=>n⟩
theorem qp:Go.Proofs.Lays.n154 Tryz.prog gi where
 mixed:=by kernel_rfl
 f138:=Tryz.func147.trans (congrArg some (by kernel_rfl))
 f143:=Tryz.func149.trans (congrArg some (by kernel_rfl))
 f154:=Tryz.func109.trans (congrArg some (by kernel_rfl))
 f165:=Tryz.func148.trans (congrArg some (by kernel_rfl))
 f166:=Tryz.func150.trans (congrArg some (by kernel_rfl))
 f169:=Tryz.func152.trans (congrArg some (by kernel_rfl))
 f195:=Tryz.func182.trans (congrArg some (by kernel_rfl))
 f197:=Tryz.func151.trans (congrArg some (by kernel_rfl))
 f217:=Tryz.func113.trans (congrArg some (by kernel_rfl))
 f218:=Tryz.func183.trans (congrArg some (by kernel_rfl))
 f219:=Tryz.func186.trans (congrArg some (by kernel_rfl))
 f224:=Tryz.func200.trans (congrArg some (by kernel_rfl))
 f225:=Tryz.func199.trans (congrArg some (by kernel_rfl))
 f240:=Tryz.func184.trans (congrArg some (by kernel_rfl))
 f241:=Tryz.func185.trans (congrArg some (by kernel_rfl))
 f260:=Tryz.func187.trans (congrArg some (by kernel_rfl))
 f266:=Tryz.func155.trans (congrArg some (by kernel_rfl))
 f267:=Tryz.func201.trans (congrArg some (by kernel_rfl))
 f276:=Tryz.func197.trans (congrArg some (by kernel_rfl))
 f277:=Tryz.func198.trans (congrArg some (by kernel_rfl))
 f314:=Tryz.func208.trans (congrArg some (by kernel_rfl))
 t0:=Tryz.underlying0
 a0:=Tryz.isAgg0
 z0:=Tryz.sizeOf0
 v0:=Tryz.zeroValue0
 t3:=Tryz.underlying3
 a3:=Tryz.isAgg3
 z3:=Tryz.sizeOf3
 v3:=Tryz.zeroValue3
 t4:=Tryz.underlying4
 a4:=Tryz.isAgg4
 z4:=Tryz.sizeOf4
 v4:=Tryz.zeroValue4
 t5:=Tryz.underlying5
 a5:=Tryz.isAgg5
 z5:=Tryz.sizeOf5
 v5:=Tryz.zeroValue5
 t9:=Tryz.underlying9
 a9:=Tryz.isAgg9
 z9:=Tryz.sizeOf9
 v9:=Tryz.zeroValue9
 t20:=Tryz.underlying20
 a20:=Tryz.isAgg20
 z20:=Tryz.sizeOf20
 v20:=Tryz.zeroValue20
 t21:=Tryz.underlying21
 a21:=Tryz.isAgg21
 z21:=Tryz.sizeOf21
 v21:=Tryz.zeroValue21
 t37:=Tryz.underlying233
 a37:=Tryz.isAgg233
 z37:=Tryz.sizeOf233
 v37:=Tryz.zeroValue233
 t46:=Tryz.underlying180
 a46:=Tryz.isAgg180
 z46:=Tryz.sizeOf180
 v46:=Tryz.zeroValue180
 t51:=Tryz.underlying223
 a51:=Tryz.isAgg223
 z51:=Tryz.sizeOf223
 v51:=Tryz.zeroValue223
 t70:=Tryz.underlying232
 a70:=Tryz.isAgg232
 z70:=Tryz.sizeOf232
 v70:=Tryz.zeroValue232
 t72:=Tryz.underlying235
 a72:=Tryz.isAgg235
 z72:=Tryz.sizeOf235
 v72:=Tryz.zeroValue235
 t75:=Tryz.underlying190
 a75:=Tryz.isAgg190
 z75:=Tryz.sizeOf190
 v75:=Tryz.zeroValue190
 t76:=Tryz.underlying191
 a76:=Tryz.isAgg191
 z76:=Tryz.sizeOf191
 v76:=Tryz.zeroValue191
 t105:=Tryz.underlying237
 a105:=Tryz.isAgg237
 z105:=Tryz.sizeOf237
 v105:=Tryz.zeroValue237
 t119:=Tryz.underlying276
 a119:=Tryz.isAgg276
 z119:=Tryz.sizeOf276
 t127:=Tryz.underlying263
 a127:=Tryz.isAgg263
 z127:=Tryz.sizeOf263
 v127:=Tryz.zeroValue263
 t138:=Tryz.underlying278
 a138:=Tryz.isAgg278
 z138:=Tryz.sizeOf278
 v138:=Tryz.zeroValue278
 t139:=Tryz.underlying279
 a139:=Tryz.isAgg279
 z139:=Tryz.sizeOf279
 v139:=Tryz.zeroValue279
 t146:=Tryz.underlying290
 a146:=Tryz.isAgg290
 z146:=Tryz.sizeOf290
 v146:=Tryz.zeroValue290
 t164:=Tryz.underlying273
 a164:=Tryz.isAgg273
 z164:=Tryz.sizeOf273
 v164:=Tryz.zeroValue273
 g1:=by kernel_rfl
 g3:=by kernel_rfl
 g4:=by kernel_rfl
theorem oW:Builder.Extra Tryz.prog gi where
 sizeBuilder:=by kernel_rfl
 liesBuilder:=by kernel_rfl
 t5:=Tryz.underlying5
 a5:=Tryz.isAgg5
 z5:=Tryz.sizeOf5
 v5:=Tryz.zeroValue5
 infoByte:=by kernel_rfl
 cellsByte:=by kernel_rfl
 sizeByte:=by kernel_rfl
 neB5:=by decide
theorem rM (l:List UInt8) (h:l.length<=500000000):ah Tryz.prog 109 [.d (.str l),.d (.str [46]),.d (.str []),.d (dI 1)] (.d (.str (Lib.replace l [46] [] 1))):=ah.of0 λw I vs hI ha=>by
 simp only[ap,ai,ar] at ha;obtain⟨_,_,rfl,rfl,_,_,rfl,rfl,_,_,rfl,rfl,_,_,rfl,rfl,rfl⟩:=ha;obtain⟨m,hm⟩:=xl hI;refine(Any.strings_Replace qp oW ⟨l.toArray⟩ ⟨[46].toArray⟩ ⟨[].toArray⟩ 1 m w (by rw[szB];omega) hm (by rw[szB];simp) (by rw[szB,szB];simp;omega)).mono ?_
 rintro e w' ⟨rfl,hb⟩;exact⟨_,rfl,hb,λ_=>by simp[ai,ar]⟩
def jz:Go.Shelf.Ren:=⟨λ|104=>111|211=>154|207=>189|n=>n,λ|9=>9|4=>4|24=>110|3=>3|n=>n,λ|n=>n⟩
theorem na:Go.Proofs.Lays.n104 Tryz.prog jz where
 mixed:=by kernel_rfl
 f104:=Tryz.func111.trans (congrArg some (by kernel_rfl))
 f207:=Tryz.func189.trans (congrArg some (by kernel_rfl))
 f211:=Tryz.func154.trans (congrArg some (by kernel_rfl))
 t3:=Tryz.underlying3
 a3:=Tryz.isAgg3
 z3:=Tryz.sizeOf3
 v3:=Tryz.zeroValue3
 t4:=Tryz.underlying4
 a4:=Tryz.isAgg4
 z4:=Tryz.sizeOf4
 v4:=Tryz.zeroValue4
 t9:=Tryz.underlying9
 a9:=Tryz.isAgg9
 z9:=Tryz.sizeOf9
 v9:=Tryz.zeroValue9
 t24:=Tryz.underlying110
 a24:=Tryz.isAgg110
 z24:=Tryz.sizeOf110
 v24:=Tryz.zeroValue110
theorem pa (l p:List UInt8) (h:l.length<=500000000):ah Tryz.prog 111 [.d (.str l),.d (.str p)] (.tup [.d (.str (Lib.trimSuffix l p)),.d (.bool (Lib.hasSuffix l p))]):=ah.of0 λw I vs hI ha=>by
 simp only[ap,ai,ar] at ha;obtain⟨_,_,rfl,rfl,_,_,rfl,rfl,rfl⟩:=ha;refine(Any.strings_CutSuffix na ⟨l.toArray⟩ ⟨p.toArray⟩ w (by rw[szB];omega)).mono ?_
 rintro e w' ⟨rfl,rfl⟩;exact⟨_,rfl,Below.refl _ _,λ_=>by simp[ai,ap,ar]⟩
def jy:Go.Shelf.Ren:=⟨λ|99=>87|206=>112|n=>n,λ|9=>9|4=>4|3=>3|n=>n,λ|n=>n⟩
theorem m_:Go.Proofs.Lays.n99 Tryz.prog jy where
 mixed:=by kernel_rfl
 f99:=Tryz.func87.trans (congrArg some (by kernel_rfl))
 f206:=Tryz.func112.trans (congrArg some (by kernel_rfl))
 t3:=Tryz.underlying3
 a3:=Tryz.isAgg3
 z3:=Tryz.sizeOf3
 v3:=Tryz.zeroValue3
 t4:=Tryz.underlying4
 a4:=Tryz.isAgg4
 z4:=Tryz.sizeOf4
 v4:=Tryz.zeroValue4
 t9:=Tryz.underlying9
 a9:=Tryz.isAgg9
 z9:=Tryz.sizeOf9
 v9:=Tryz.zeroValue9
theorem o6 (l p:List UInt8):ah Tryz.prog 87 [.d (.str l),.d (.str p)] (.d (.bool (Lib.hasPrefix l p))):=ah.of0 λw I vs hI ha=>by
 simp only[ap,ai,ar] at ha;obtain⟨_,_,rfl,rfl,_,_,rfl,rfl,rfl⟩:=ha;refine(Any.strings_HasPrefix m_ ⟨l.toArray⟩ ⟨p.toArray⟩ w).mono ?_;rintro e w' ⟨rfl,rfl⟩;exact⟨_,rfl,Below.refl _ _,λ_=>by simp[ai,ar]⟩
def jx:Go.Shelf.Ren:=⟨λ|137=>88|217=>113|266=>155|n=>n,λ|9=>9|5=>5|3=>3|n=>n,λ|n=>n⟩
theorem m9:Go.Proofs.Lays.n137 Tryz.prog jx where
 mixed:=by kernel_rfl
 f137:=Tryz.func88.trans (congrArg some (by kernel_rfl))
 f217:=Tryz.func113.trans (congrArg some (by kernel_rfl))
 f266:=Tryz.func155.trans (congrArg some (by kernel_rfl))
 t3:=Tryz.underlying3
 a3:=Tryz.isAgg3
 z3:=Tryz.sizeOf3
 v3:=Tryz.zeroValue3
 t5:=Tryz.underlying5
 a5:=Tryz.isAgg5
 z5:=Tryz.sizeOf5
 v5:=Tryz.zeroValue5
 t9:=Tryz.underlying9
 a9:=Tryz.isAgg9
 z9:=Tryz.sizeOf9
 v9:=Tryz.zeroValue9
theorem o5 (l:List UInt8) (c:UInt8):ah Tryz.prog 88 [.d (.str l),.d (.int .u8 c.toNat)] (.d (dI (Lib.indexByte l c))):=ah.of0 λw I vs hI ha=>by
 simp only[ap,ai,ar] at ha;obtain⟨_,_,rfl,rfl,_,_,rfl,rfl,rfl⟩:=ha;refine(Any.strings_IndexByte m9 ⟨l.toArray⟩ (c.toNat:Int) w).mono ?_;rintro e w' ⟨rfl,rfl⟩;exact⟨_,rfl,Below.refl _ _,λ_=>by simp[ai,ar]⟩
def lM (n:Int):List UInt8:=(if n<0 then [45] else [])++(Lib.itoa (n.natAbs/100:Nat)++46::(Lib.itoa (100+n.natAbs%100:Nat)).tail)
theorem lL {n:Int} (h0: -9223372036854775807<=n) (h1:n<=9223372036854775807):(lM n).length<=50:=by
 have e1:=gW (n:=(n.natAbs/100:Nat)) (by omega) (by omega)
 have e2:=gW (n:=(100+n.natAbs%100:Nat)) (by omega) (by omega)
 unfold lM;obtain⟨A,hA⟩:∃s,Lib.itoa ((n.natAbs/100:Nat):Int)=s:=⟨_,rfl⟩
 obtain⟨B,hB⟩:∃s,Lib.itoa ((100+n.natAbs%100:Nat):Int)=s:=⟨_,rfl⟩
 rw[hA] at e1 ⊢;rw[hB] at e2 ⊢;rw[List.length_append,List.length_append,List.length_cons,List.length_tail];split
 ·simp only[List.length_cons,List.length_nil];omega
 ·simp only[List.length_nil];omega
theorem xi (n:Int) (h:0<=n):1<=(Lib.itoa n).length:=by
 rw[Lib.itoa,if_neg (by omega)];exact ne _
theorem yT (n:Int) (h:aD n=false):ah Tryz.prog 110 [.d (dI n)] (.tup [.d (.str []),.d (dI 3)]):=by
 have h1:=aX n;rw[h] at h1;refine ah.enter tabOk Tryz.func110 rfl (by show 1<=26;decide) ?_
 simp only[Tryz.f110];have H:=trivial;refine zR ?_;refine WpC.seq ?_;refine WpC.seq ?_;refine WpC.region ?_;refine zO 1 ?_;refine zG a_ (h1) ?_;refine zO 1 ?_;refine WpO.nil ?_;refine zT ?_;refine zR ?_;refine WpC.ret ?_;try simp only[aa,aj]
 refine zE ?_;simp -implicitDefEqProofs[H]
theorem oo (n:Int) (h0: -9223372036854775807<=n) (h2:n<=9223372036854775807):ah Tryz.prog 110 [.d (dI n)] (.tup [.d (.str (lM n)),.d (dI 0)]):=by
 have h1:=aX n;rw[show aD n=true from decide_eq_true h0] at h1
 obtain⟨q,hq⟩:∃q,n.natAbs/100=q:=⟨_,rfl⟩
 obtain⟨r,hr⟩:∃q,100+n.natAbs%100=q:=⟨_,rfl⟩
 have i1:=oZ q (by omega) (by omega)
 have i2:=oZ r (by omega) (by omega)
 have l1:=gW (n:=(q:Int)) (by omega) (by omega)
 have l2:=gW (n:=(r:Int)) (by omega) (by omega)
 have p2:=xi (r:Int) (by omega)
 have ht:lM n=(if n<0 then [45] else [])++(Lib.itoa q++46::(Lib.itoa r).tail):=by rw[lM,hq,hr]
 rw[ht];obtain⟨A,hA⟩:∃s,Lib.itoa (q:Int)=s:=⟨_,rfl⟩
 obtain⟨B,hB⟩:∃s,Lib.itoa (r:Int)=s:=⟨_,rfl⟩
 rw[hA] at i1 l1 ⊢;rw[hB] at i2 l2 p2 ⊢;have s1:¬(9223372036854775807:Int)<A.length:=by omega
 have s2:¬(9223372036854775807:Int)<1+(A.length:Int):=by omega
 have s3:¬(9223372036854775807:Int)<(A.length:Int)+1:=by omega
 have s4:¬(9223372036854775807:Int)<1+(A.length:Int)+1:=by omega
 have s5:¬(9223372036854775807:Int)<(A.length:Int)+1+((B.length-1:Nat):Int):=by omega
 have s6:¬(9223372036854775807:Int)<1+(A.length:Int)+1+((B.length-1:Nat):Int):=by omega
 have s7:¬(9223372036854775807:Int)<(A.length:Int)+1+1:=by omega
 have s8:¬(9223372036854775807:Int)<(A.length:Int)+1+1+((B.length-1:Nat):Int):=by omega
 have p3:¬B=[]:=λe=>by subst e;simp at p2
 have hmin:B.length-1=B.tail.length:=by simp
 have hbt:B.tail.take (B.length-1)=B.tail:=List.take_of_length_le (by simp)
 by_cases hn:n<0
 ·obtain⟨m,hm⟩:∃m,-n=m:=⟨_,rfl⟩
  have w0:IntKind.i64.wrap (-n)=m:=by rw[am (by omega) (by omega)];exact hm
  have w1:m.tmod 100=((n.natAbs%100:Nat):Int):=by rw[Int.tmod_eq_emod_of_nonneg (by omega)];omega
  have w2:IntKind.i64.wrap (100+((n.natAbs%100:Nat):Int))=(r:Int):=by rw[am (by omega) (by omega)];omega
  have w3:IntKind.i64.wrap (m.tdiv 100)=(q:Int):=by
   have:m.tdiv 100=(q:Int):=by rw[Int.tdiv_eq_ediv_of_nonneg (by omega)];omega
   rw[this];exact am (by omega) (by omega)
  have w4:IntKind.i64.wrap (100+m.tmod 100)=(r:Int):=by rw[w1];exact w2
  rw[if_pos hn];refine ah.enter tabOk Tryz.func110 rfl (by show 1<=26;decide) ?_
  simp only[Tryz.f110];have H:=And.intro hn (And.intro w0 (And.intro w4 (And.intro w3 (And.intro s1 (And.intro s2 (And.intro s3 (And.intro s4 (And.intro s5 (And.intro s6 (And.intro s7 (And.intro s8 (And.intro p2 (And.intro p3 hbt)))))))))))));refine zR ?_;refine WpC.seq ?_;refine WpC.seq ?_;refine WpC.region ?_;refine zO 1 ?_;refine zG a_ (h1) ?_;refine zO 1 ?_;refine WpO.nil ?_;refine zF ?_;refine WpC.skip ?_;refine zR ?_;refine WpC.seq ?_;refine zR ?_;refine zT ?_;refine zr ?_;refine WpC.seq ?_;refine WpC.region ?_;refine zO 3 ?_;refine zG g_ (i2) ?_;refine zO 1 ?_;refine WpO.nil ?_;refine WpC.seq ?_;refine WpC.drawn tabOk (by kernel_rfl) 0 (by simp) ?_
  refine yO 3 ?_;refine yG g_ (i1) ?_;iterate 2 refine yO 3 ?_
  refine yO 1 ?_;refine DrO.nil ⟨by kernel_rfl,?_⟩
  refine WpC.ret ?_;try simp only[aa,aj]
  refine zE ?_;simp -implicitDefEqProofs[H]
 ·have w1:n.tmod 100=((n.natAbs%100:Nat):Int):=by rw[Int.tmod_eq_emod_of_nonneg (by omega)];omega
  have w2:IntKind.i64.wrap (100+((n.natAbs%100:Nat):Int))=(r:Int):=by rw[am (by omega) (by omega)];omega
  have w3:IntKind.i64.wrap (n.tdiv 100)=(q:Int):=by
   have:n.tdiv 100=(q:Int):=by rw[Int.tdiv_eq_ediv_of_nonneg (by omega)];omega
   rw[this];exact am (by omega) (by omega)
  have w4:IntKind.i64.wrap (100+n.tmod 100)=(r:Int):=by rw[w1];exact w2
  rw[if_neg hn];refine ah.enter tabOk Tryz.func110 rfl (by show 1<=26;decide) ?_
  simp only[Tryz.f110];have H:=And.intro hn (And.intro w4 (And.intro w3 (And.intro s1 (And.intro s2 (And.intro s3 (And.intro s4 (And.intro s5 (And.intro s6 (And.intro s7 (And.intro s8 (And.intro p2 (And.intro p3 hbt))))))))))));refine zR ?_;refine WpC.seq ?_;refine WpC.seq ?_;refine WpC.region ?_;refine zO 1 ?_;refine zG a_ (h1) ?_;refine zO 1 ?_;refine WpO.nil ?_;refine zF ?_;refine WpC.skip ?_;refine zR ?_;refine WpC.seq ?_;refine zR ?_;refine zF ?_;refine WpC.skip ?_;refine WpC.seq ?_;refine WpC.region ?_;refine zO 3 ?_;refine zG g_ (i2) ?_;refine zO 1 ?_;refine WpO.nil ?_;refine WpC.seq ?_;refine WpC.drawn tabOk (by kernel_rfl) 0 (by simp) ?_
  refine yO 3 ?_;refine yG g_ (i1) ?_;iterate 2 refine yO 3 ?_
  refine yO 1 ?_;refine DrO.nil ⟨by kernel_rfl,?_⟩
  refine WpC.ret ?_;try simp only[aa,aj]
  refine zE ?_;simp -implicitDefEqProofs[H]
def iM (s:List UInt8):Int×Bool:=
 if (eH (Lib.replace s [46] [] 1)).2=true/\aD (eH (Lib.replace s [46] [] 1)).1=true/\lM (eH (Lib.replace s [46] [] 1)).1=s then((eH (Lib.replace s [46] [] 1)).1,true) else(0,false)
theorem mR (l:List UInt8): -9223372036854775808<=(eH l).1/\(eH l).1<=9223372036854775807:=by
 unfold eH;split
 ·rename_i v h;unfold Lib.atoiAll at h;split at h
  ·cases h
  ·simp only at h;split at h
   ·cases h
   ·cases h
   ·split at h
    ·cases h
    ·split at h
     ·cases h
     ·cases h;split<;>simp only<;>omega
 ·unfold Lib.atoiSat;split<;>simp
 ·simp
theorem jg (old:List UInt8):∀(k:Nat) (s:List UInt8),(Lib.replaceK old [] k s).length<=s.length
 |0,s=>Nat.le_refl _
 |k+1,s=>by
  rw[Lib.replaceK];split
  ·exact Nat.le_refl _
  ·have:=jg old k (s.drop ((Lib.index s old).toNat+old.length));rw[List.length_drop] at this;rw[List.length_append,List.length_append,List.length_take,List.length_nil];omega
theorem oK (s:List UInt8) (h:s.length<=500000000):ah Tryz.prog 85 [.d (.str s)] (.tup [.d (dI (iM s).1),.d (.bool (iM s).2)]):=by
 have hr:=rM s h;have hl:(Lib.replace s [46] [] 1).length<=s.length:=by
  unfold Lib.replace;split
  ·exact Nat.le_refl _
  ·exact jg _ _ _
 unfold iM;obtain⟨R,hR⟩:∃R,Lib.replace s [46] [] 1=R:=⟨_,rfl⟩
 rw[hR] at hr hl ⊢;have ha:=tZ R (by omega)
 have hv:=mR R;obtain⟨⟨v,b⟩,e⟩:∃p,eH R=p:=⟨_,rfl⟩
 rw[e] at ha hv ⊢;simp only at ha hv ⊢;have hm:=aX v;cases b with
 |false=>
  simp only[Bool.false_eq_true,if_false,false_and] at ha ⊢;refine ah.enter tabOk Tryz.func85 rfl (by show 1<=30;decide) ?_
  simp only[Tryz.f85];have H:=trivial;refine zR ?_;refine WpC.seq ?_;refine WpC.region ?_;refine zO 1 ?_;refine zG jO (hr) ?_;refine zG hM (ha) ?_;refine zO 5 ?_;refine WpO.nil ?_;refine WpC.seq ?_;refine WpC.seq ?_;refine WpC.val 20 (.d (.bool (true))) ?_ ?_
  ·refine WpC.region ?_;refine zO 3 ?_;refine zS 16 (λg16=>?_) (λg16=>?_)
   ·try(exfalso;revert g16;simp;done)
    all_goals
     have g16':=zN g16;replace H:=And.intro g16 H;refine zO 4 ?_;refine WpO.nil ?_;refine⟨rfl,Gh.only 20 8 ?_ (by first|rfl|simp -implicitDefEqProofs[H]) (by rfl)⟩
     simp -implicitDefEqProofs[H,g16']
   ·try(exfalso;revert g16;simp;done)
    all_goals
     have g16':=zN g16;replace H:=And.intro g16 H;refine zO 1 ?_;contradiction
     refine zO 2 ?_;refine WpO.nil ?_;refine⟨rfl,Gh.only 20 8 ?_ (by first|rfl|simp -implicitDefEqProofs[H]) (by rfl)⟩
     simp -implicitDefEqProofs[H,g16']
  refine zT ?_;refine zR ?_;refine WpC.ret ?_;try simp only[aa,aj]
  refine zE ?_;simp -implicitDefEqProofs[H]
 |true=>
  simp only[if_true] at ha;cases hrm:aD v with
  |false=>
   rw[hrm] at hm;rw[if_neg (by simp)]
   refine ah.enter tabOk Tryz.func85 rfl (by show 1<=30;decide) ?_
   simp only[Tryz.f85];have H:=trivial;refine zR ?_;refine WpC.seq ?_;refine WpC.region ?_;refine zO 1 ?_;refine zG jO (hr) ?_;refine zG hM (ha) ?_;refine zO 5 ?_;refine WpO.nil ?_;refine WpC.seq ?_;refine WpC.seq ?_;refine WpC.val 20 (.d (.bool (true))) ?_ ?_
   ·refine WpC.region ?_;refine zO 3 ?_;refine zS 16 (λg16=>?_) (λg16=>?_)
    ·try(exfalso;revert g16;simp;done)
     all_goals
      have g16':=zN g16;replace H:=And.intro g16 H;refine zO 4 ?_;refine WpO.nil ?_;refine⟨rfl,Gh.only 20 8 ?_ (by first|rfl|simp -implicitDefEqProofs[H]) (by rfl)⟩
      simp -implicitDefEqProofs[H,g16']
    ·try(exfalso;revert g16;simp;done)
     all_goals
      have g16':=zN g16;replace H:=And.intro g16 H;refine zO 1 ?_;refine zG a_ (hm) ?_;refine zO 2 ?_;refine WpO.nil ?_;refine⟨rfl,Gh.only 20 8 ?_ (by first|rfl|simp -implicitDefEqProofs[H]) (by rfl)⟩
      simp -implicitDefEqProofs[H,g16']
   refine zT ?_;refine zR ?_;refine WpC.ret ?_;try simp only[aa,aj]
   refine zE ?_;simp -implicitDefEqProofs[H]
  |true=>
   rw[hrm] at hm;have ht:=oo v (of_decide_eq_true hrm) hv.2;obtain⟨t,htt⟩:∃t,lM v=t:=⟨_,rfl⟩
   rw[htt] at ht ⊢;by_cases hs:t=s
   ·have hb:(t==s)=true:=by simp[hs]
    rw[if_pos ⟨rfl,rfl,hs⟩];refine ah.enter tabOk Tryz.func85 rfl (by show 1<=30;decide) ?_
    simp only[Tryz.f85];have H:=hb;refine zR ?_;refine WpC.seq ?_;refine WpC.region ?_;refine zO 1 ?_;refine zG jO (hr) ?_;refine zG hM (ha) ?_;refine zO 5 ?_;refine WpO.nil ?_;refine WpC.seq ?_;refine WpC.seq ?_;refine WpC.val 20 (.d (.bool (false))) ?_ ?_
    ·refine WpC.region ?_;refine zO 3 ?_;refine zS 16 (λg16=>?_) (λg16=>?_)
     ·try(exfalso;revert g16;simp;done)
      all_goals
       have g16':=zN g16;replace H:=And.intro g16 H;refine zO 4 ?_;refine WpO.nil ?_;refine⟨rfl,Gh.only 20 8 ?_ (by first|rfl|simp -implicitDefEqProofs[H]) (by rfl)⟩
       simp -implicitDefEqProofs[H,g16']
     ·try(exfalso;revert g16;simp;done)
      all_goals
       have g16':=zN g16;replace H:=And.intro g16 H;refine zO 1 ?_;refine zG a_ (hm) ?_;refine zO 2 ?_;refine WpO.nil ?_;refine⟨rfl,Gh.only 20 8 ?_ (by first|rfl|simp -implicitDefEqProofs[H]) (by rfl)⟩
       simp -implicitDefEqProofs[H,g16']
    refine zF ?_;refine WpC.skip ?_;refine WpC.seq ?_;refine WpC.seq ?_;refine WpC.region ?_;refine zO 1 ?_;refine zG jN (ht) ?_;refine zO 5 ?_;refine WpO.nil ?_;refine zR ?_;refine zF ?_;refine WpC.skip ?_;refine zR ?_;refine WpC.ret ?_;try simp only[aa,aj]
    refine zE ?_;simp -implicitDefEqProofs[H]
   ·have hb:(t==s)=false:=by simp[hs]
    rw[if_neg λh=>hs h.2.2]
    refine ah.enter tabOk Tryz.func85 rfl (by show 1<=30;decide) ?_
    simp only[Tryz.f85];have H:=hb;refine zR ?_;refine WpC.seq ?_;refine WpC.region ?_;refine zO 1 ?_;refine zG jO (hr) ?_;refine zG hM (ha) ?_;refine zO 5 ?_;refine WpO.nil ?_;refine WpC.seq ?_;refine WpC.seq ?_;refine WpC.val 20 (.d (.bool (false))) ?_ ?_
    ·refine WpC.region ?_;refine zO 3 ?_;refine zS 16 (λg16=>?_) (λg16=>?_)
     ·try(exfalso;revert g16;simp;done)
      all_goals
       have g16':=zN g16;replace H:=And.intro g16 H;refine zO 4 ?_;refine WpO.nil ?_;refine⟨rfl,Gh.only 20 8 ?_ (by first|rfl|simp -implicitDefEqProofs[H]) (by rfl)⟩
       simp -implicitDefEqProofs[H,g16']
     ·try(exfalso;revert g16;simp;done)
      all_goals
       have g16':=zN g16;replace H:=And.intro g16 H;refine zO 1 ?_;refine zG a_ (hm) ?_;refine zO 2 ?_;refine WpO.nil ?_;refine⟨rfl,Gh.only 20 8 ?_ (by first|rfl|simp -implicitDefEqProofs[H]) (by rfl)⟩
       simp -implicitDefEqProofs[H,g16']
    refine zF ?_;refine WpC.skip ?_;refine WpC.seq ?_;refine WpC.seq ?_;refine WpC.region ?_;refine zO 1 ?_;refine zG jN (ht) ?_;refine zO 5 ?_;refine WpO.nil ?_;refine zR ?_;refine zT ?_;refine zR ?_;refine WpC.ret ?_;try simp only[aa,aj]
    refine zE ?_;simp -implicitDefEqProofs[H]
theorem sR (s:List UInt8): -9223372036854775807<=(iM s).1/\(iM s).1<=9223372036854775807:=by
 unfold iM;split
 ·rename_i h;have:=mR (Lib.replace s [46] [] 1);exact⟨of_decide_eq_true h.2.1,this.2⟩
 ·simp
def vz (n:Int):List UInt8:=lM n++[37]
theorem yR (n:Int) (h:cG n=false):ah Tryz.prog 218 [.d (dI n)] (.tup [.d (.str []),.d (dI 1)]):=by
 have h1:=dQ n;rw[h] at h1;refine ah.enter tabOk Tryz.func218 rfl (by show 1<=16;decide) ?_
 simp only[Tryz.f218];have H:=trivial;refine zR ?_;refine WpC.seq ?_;refine WpC.seq ?_;refine WpC.region ?_;refine zO 1 ?_;refine zG cr (h1) ?_;refine zO 1 ?_;refine WpO.nil ?_;refine zT ?_;refine zR ?_;refine WpC.ret ?_;try simp only[aa,aj]
 refine zE ?_;simp -implicitDefEqProofs[H]
theorem yQ (n:Int) (h:cG n=true):ah Tryz.prog 218 [.d (dI n)] (.tup [.d (.str (vz n)),.d (dI 0)]):=by
 have h1:=dQ n;rw[h] at h1;have hb:0<=n/\n<=10000:=by simpa[cG] using h
 have ht:=oo n (by omega) (by omega)
 have hl:=lL (n:=n) (by omega) (by omega)
 unfold vz;obtain⟨t,htt⟩:∃t,lM n=t:=⟨_,rfl⟩
 rw[htt] at ht hl ⊢;have s1:¬(9223372036854775807:Int)<(t.length:Int)+1:=by omega
 refine ah.enter tabOk Tryz.func218 rfl (by show 1<=16;decide) ?_
 simp only[Tryz.f218];have H:=s1;refine zR ?_;refine WpC.seq ?_;refine WpC.seq ?_;refine WpC.region ?_;refine zO 1 ?_;refine zG cr (h1) ?_;refine zO 1 ?_;refine WpO.nil ?_;refine zF ?_;refine WpC.skip ?_;refine WpC.seq ?_;refine WpC.region ?_;refine zO 1 ?_;refine zG jN (ht) ?_;refine zO 5 ?_;refine WpO.nil ?_;refine zR ?_;refine WpC.ret ?_;try simp only[aa,aj]
 refine zE ?_;simp -implicitDefEqProofs[H]
def m7 (s:List UInt8):Int×Bool:=
 if Lib.hasSuffix s [37]=true/\(iM (Lib.trimSuffix s [37])).2=true/\cG (iM (Lib.trimSuffix s [37])).1=true then((iM (Lib.trimSuffix s [37])).1,true) else(0,false)
theorem lN (s p:List UInt8):(Lib.trimSuffix s p).length<=s.length:=by
 unfold Lib.trimSuffix;split
 ·rw[List.length_take];omega
 ·exact Nat.le_refl _
theorem sQ (s:List UInt8) (h:s.length<=500000000):ah Tryz.prog 86 [.d (.str s)] (.tup [.d (dI (m7 s).1),.d (.bool (m7 s).2)]):=by
 have hc:=pa s [37] h;have hl:=lN s [37];unfold m7;obtain⟨t,ht⟩:∃t,Lib.trimSuffix s [37]=t:=⟨_,rfl⟩
 obtain⟨b,hb⟩:∃t,Lib.hasSuffix s [37]=t:=⟨_,rfl⟩
 rw[ht] at hc hl ⊢;rw[hb] at hc ⊢;have hp:=oK t (by omega)
 obtain⟨⟨v,c⟩,e⟩:∃p,iM t=p:=⟨_,rfl⟩
 rw[e] at hp ⊢;simp only at hp ⊢;have hr:=dQ v;obtain⟨d,hd⟩:∃p,cG v=p:=⟨_,rfl⟩
 rw[hd] at hr ⊢;by_cases hall:b=true/\c=true/\d=true
 ·rw[if_pos hall];obtain⟨rfl,rfl,rfl⟩:=hall;refine ah.enter tabOk Tryz.func86 rfl (by show 1<=30;decide) ?_
  simp only[Tryz.f86];have H:=trivial;refine zR ?_;refine WpC.seq ?_;refine WpC.region ?_;refine zO 1 ?_;refine zG jM (hc) ?_;refine zO 5 ?_;refine WpO.nil ?_;refine WpC.seq ?_;refine WpC.region ?_;refine zO 1 ?_;refine zG iw (hp) ?_;refine zO 5 ?_;refine WpO.nil ?_;refine WpC.seq ?_;refine WpC.seq ?_;refine WpC.val 28 (.d (.bool (false))) ?_ ?_
  ·refine WpC.region ?_;refine zO 3 ?_;refine zS 20 (λg20=>?_) (λg20=>?_)
   ·try(exfalso;revert g20;simp;done)
    all_goals
     have g20':=zN g20;replace H:=And.intro g20 H;refine zO 8 ?_;refine WpO.nil ?_;refine⟨rfl,Gh.only 28 12 ?_ (by first|rfl|simp -implicitDefEqProofs[H]) (by rfl)⟩
     simp -implicitDefEqProofs[H,g20']
   ·try(exfalso;revert g20;simp;done)
    all_goals
     have g20':=zN g20;replace H:=And.intro g20 H;refine zO 4 ?_;refine zS 24 (λg24=>?_) (λg24=>?_)
     ·try(exfalso;revert g24;simp;done)
      all_goals
       have g24':=zN g24;replace H:=And.intro g24 H;refine zO 4 ?_;refine WpO.nil ?_;refine⟨rfl,Gh.only 28 13 ?_ (by first|rfl|simp -implicitDefEqProofs[H]) (by rfl)⟩
       simp -implicitDefEqProofs[H,g20',g24']
     ·try(exfalso;revert g24;simp;done)
      all_goals
       have g24':=zN g24;replace H:=And.intro g24 H;refine zO 1 ?_;refine zG cr (hr) ?_;refine zO 2 ?_;refine WpO.nil ?_;refine⟨rfl,Gh.only 28 13 ?_ (by first|rfl|simp -implicitDefEqProofs[H]) (by rfl)⟩
       simp -implicitDefEqProofs[H,g20',g24']
  refine zF ?_;refine WpC.skip ?_;refine zR ?_;refine WpC.ret ?_;try simp only[aa,aj]
  refine zE ?_;simp -implicitDefEqProofs[H]
 ·rw[if_neg hall];cases b with
  |false=>
   refine ah.enter tabOk Tryz.func86 rfl (by show 1<=30;decide) ?_
   simp only[Tryz.f86];have H:=trivial;refine zR ?_;refine WpC.seq ?_;refine WpC.region ?_;refine zO 1 ?_;refine zG jM (hc) ?_;refine zO 5 ?_;refine WpO.nil ?_;refine WpC.seq ?_;refine WpC.region ?_;refine zO 1 ?_;refine zG iw (hp) ?_;refine zO 5 ?_;refine WpO.nil ?_;refine WpC.seq ?_;refine WpC.seq ?_;refine WpC.val 28 (.d (.bool (true))) ?_ ?_
   ·refine WpC.region ?_;refine zO 3 ?_;refine zS 20 (λg20=>?_) (λg20=>?_)
    ·try(exfalso;revert g20;simp;done)
     all_goals
      have g20':=zN g20;replace H:=And.intro g20 H;refine zO 8 ?_;refine WpO.nil ?_;refine⟨rfl,Gh.only 28 12 ?_ (by first|rfl|simp -implicitDefEqProofs[H]) (by rfl)⟩
      simp -implicitDefEqProofs[H,g20']
    ·try(exfalso;revert g20;simp;done)
     all_goals
      have g20':=zN g20;replace H:=And.intro g20 H;refine zO 4 ?_;refine zS 24 (λg24=>?_) (λg24=>?_)
      ·try(exfalso;revert g24;simp;done)
       all_goals
        have g24':=zN g24;replace H:=And.intro g24 H;refine zO 4 ?_;refine WpO.nil ?_;refine⟨rfl,Gh.only 28 13 ?_ (by first|rfl|simp -implicitDefEqProofs[H]) (by rfl)⟩
        simp -implicitDefEqProofs[H,g20',g24']
      ·try(exfalso;revert g24;simp;done)
       all_goals
        have g24':=zN g24;replace H:=And.intro g24 H;refine zO 1 ?_;refine zG cr (hr) ?_;refine zO 2 ?_;refine WpO.nil ?_;refine⟨rfl,Gh.only 28 13 ?_ (by first|rfl|simp -implicitDefEqProofs[H]) (by rfl)⟩
        simp -implicitDefEqProofs[H,g20',g24']
   refine zT ?_;refine zR ?_;refine WpC.ret ?_;try simp only[aa,aj]
   refine zE ?_;simp -implicitDefEqProofs[H]
  |true=>
   cases c with
   |false=>
    refine ah.enter tabOk Tryz.func86 rfl (by show 1<=30;decide) ?_
    simp only[Tryz.f86];have H:=trivial;refine zR ?_;refine WpC.seq ?_;refine WpC.region ?_;refine zO 1 ?_;refine zG jM (hc) ?_;refine zO 5 ?_;refine WpO.nil ?_;refine WpC.seq ?_;refine WpC.region ?_;refine zO 1 ?_;refine zG iw (hp) ?_;refine zO 5 ?_;refine WpO.nil ?_;refine WpC.seq ?_;refine WpC.seq ?_;refine WpC.val 28 (.d (.bool (true))) ?_ ?_
    ·refine WpC.region ?_;refine zO 3 ?_;refine zS 20 (λg20=>?_) (λg20=>?_)
     ·try(exfalso;revert g20;simp;done)
      all_goals
       have g20':=zN g20;replace H:=And.intro g20 H;refine zO 8 ?_;refine WpO.nil ?_;refine⟨rfl,Gh.only 28 12 ?_ (by first|rfl|simp -implicitDefEqProofs[H]) (by rfl)⟩
       simp -implicitDefEqProofs[H,g20']
     ·try(exfalso;revert g20;simp;done)
      all_goals
       have g20':=zN g20;replace H:=And.intro g20 H;refine zO 4 ?_;refine zS 24 (λg24=>?_) (λg24=>?_)
       ·try(exfalso;revert g24;simp;done)
        all_goals
         have g24':=zN g24;replace H:=And.intro g24 H;refine zO 4 ?_;refine WpO.nil ?_;refine⟨rfl,Gh.only 28 13 ?_ (by first|rfl|simp -implicitDefEqProofs[H]) (by rfl)⟩
         simp -implicitDefEqProofs[H,g20',g24']
       ·try(exfalso;revert g24;simp;done)
        all_goals
         have g24':=zN g24;replace H:=And.intro g24 H;refine zO 1 ?_;refine zG cr (hr) ?_;refine zO 2 ?_;refine WpO.nil ?_;refine⟨rfl,Gh.only 28 13 ?_ (by first|rfl|simp -implicitDefEqProofs[H]) (by rfl)⟩
         simp -implicitDefEqProofs[H,g20',g24']
    refine zT ?_;refine zR ?_;refine WpC.ret ?_;try simp only[aa,aj]
    refine zE ?_;simp -implicitDefEqProofs[H]
   |true=>
    cases d with
    |true=>exact absurd ⟨rfl,rfl,rfl⟩ hall
    |false=>
     refine ah.enter tabOk Tryz.func86 rfl (by show 1<=30;decide) ?_
     simp only[Tryz.f86];have H:=trivial;refine zR ?_;refine WpC.seq ?_;refine WpC.region ?_;refine zO 1 ?_;refine zG jM (hc) ?_;refine zO 5 ?_;refine WpO.nil ?_;refine WpC.seq ?_;refine WpC.region ?_;refine zO 1 ?_;refine zG iw (hp) ?_;refine zO 5 ?_;refine WpO.nil ?_;refine WpC.seq ?_;refine WpC.seq ?_;refine WpC.val 28 (.d (.bool (true))) ?_ ?_
     ·refine WpC.region ?_;refine zO 3 ?_;refine zS 20 (λg20=>?_) (λg20=>?_)
      ·try(exfalso;revert g20;simp;done)
       all_goals
        have g20':=zN g20;replace H:=And.intro g20 H;refine zO 8 ?_;refine WpO.nil ?_;refine⟨rfl,Gh.only 28 12 ?_ (by first|rfl|simp -implicitDefEqProofs[H]) (by rfl)⟩
        simp -implicitDefEqProofs[H,g20']
      ·try(exfalso;revert g20;simp;done)
       all_goals
        have g20':=zN g20;replace H:=And.intro g20 H;refine zO 4 ?_;refine zS 24 (λg24=>?_) (λg24=>?_)
        ·try(exfalso;revert g24;simp;done)
         all_goals
          have g24':=zN g24;replace H:=And.intro g24 H;refine zO 4 ?_;refine WpO.nil ?_;refine⟨rfl,Gh.only 28 13 ?_ (by first|rfl|simp -implicitDefEqProofs[H]) (by rfl)⟩
          simp -implicitDefEqProofs[H,g20',g24']
        ·try(exfalso;revert g24;simp;done)
         all_goals
          have g24':=zN g24;replace H:=And.intro g24 H;refine zO 1 ?_;refine zG cr (hr) ?_;refine zO 2 ?_;refine WpO.nil ?_;refine⟨rfl,Gh.only 28 13 ?_ (by first|rfl|simp -implicitDefEqProofs[H]) (by rfl)⟩
          simp -implicitDefEqProofs[H,g20',g24']
     refine zT ?_;refine zR ?_;refine WpC.ret ?_;try simp only[aa,aj]
     refine zE ?_;simp -implicitDefEqProofs[H]
end Go.Proofs.YtlhmejigmokbhaaGreatDoor.Pay
