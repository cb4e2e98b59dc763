/- The texts PayT, one behind the other. No statement of the seed is proved here. -/
import Derived.Test.YtlhmejigmokbhaaGreatDoorMgM
import Derived.Test.YtlhmejigmokbhaaGreatDoorProg
import Derived.KernelRfl
namespace Go.Proofs.YtlhmejigmokbhaaGreatDoor.Pay
open Go Go.Proofs
set_option maxRecDepth 100000
def qk:List (Nat×TI)->Nat->Option TI
 |[],_=>none
 |(s,v)::r,t=>if s=t then some v else qk r t
def FN (P:Program):List (Nat×TI)->Prop
 |[]=>True
 |p::r=>aq P p.1 p.2/\FN P r
theorem Hp {P:Program}:∀ {l:List (Nat×TI)} {t:Nat} {i:TI},FN P l->qk l t=some i->aq P t i
 |[],_,_,_,h=>by simp[qk] at h
 |(s,v)::r,t,i,ha,h=>by
  unfold qk at h;by_cases hs:s=t
  ·rw[if_pos hs] at h;cases h;subst hs;exact ha.1
  ·rw[if_neg hs] at h;exact Hp ha.2 h
theorem aq.of {P:Program} {t:Nat} {i:TI} (hk:bx P t i.kind) (h:(P.info? t).isSome=true:=by kernel_rfl) (h1:((P.info? t).get h).size=i.size:=by kernel_rfl) (h2:((P.info? t).get h).bytes=i.bytes:=by kernel_rfl)
 (h3:((P.info? t).get h).zero.isSome=true:=by kernel_rfl) (h4:dr (((P.info? t).get h).zero.get h3).cells.toList=some i.zero:=by kernel_rfl) (h5:(((P.info? t).get h).zero.get h3).cells.size=i.size:=by kernel_rfl) (h6:(i.ag||(((P.info? t).get h).zero.get h3).oneCell')=true:=by kernel_rfl):aq P t i:=
 ⟨hk,⟨_,_,(Option.some_get h).symm,h1,h2,(Option.some_get h3).symm,h4,h5⟩,λha=>⟨_,_,(Option.some_get h).symm,(Option.some_get h3).symm,by rw[ha] at h6;exact h6⟩⟩
def ti2:TI:=⟨.int .i64,1,8,[.int .i64 0]⟩
theorem FZ:aq Tryz.prog 2 ti2:=aq.of (Tryz.underlying2)
def ti3:TI:=⟨.int .i64,1,8,[.int .i64 0]⟩
theorem FY:aq Tryz.prog 3 ti3:=aq.of (Tryz.underlying3)
def ti4:TI:=⟨.bool,1,1,[.bool false]⟩
theorem FX:aq Tryz.prog 4 ti4:=aq.of (Tryz.underlying4)
def ti5:TI:=⟨.int .u8,1,1,[.int .u8 0]⟩
theorem FW:aq Tryz.prog 5 ti5:=aq.of (Tryz.underlying5)
def ti6:TI:=⟨.int .u8,1,1,[.int .u8 0]⟩
theorem FU:aq Tryz.prog 6 ti6:=aq.of (Tryz.underlying6)
def ti7:TI:=⟨.struct [(0,2),(1,3),(2,4),(3,6)],4,24,[.int .i64 0,.int .i64 0,.bool false,.int .u8 0]⟩
theorem FT:aq Tryz.prog 7 ti7:=aq.of ⟨_,Tryz.underlying7,rfl⟩
def ti8:TI:=⟨.struct [(0,2),(1,3),(2,4),(3,6)],4,24,[.int .i64 0,.int .i64 0,.bool false,.int .u8 0]⟩
theorem FS:aq Tryz.prog 8 ti8:=aq.of ⟨_,Tryz.underlying8,rfl⟩
def ti9:TI:=⟨.str,1,16,[.str []]⟩
theorem FR:aq Tryz.prog 9 ti9:=aq.of (Tryz.underlying9)
def GW:TI:=⟨.str,1,16,[.str []]⟩
theorem E3:aq Tryz.prog 10 GW:=aq.of (Tryz.underlying10)
def GU:TI:=⟨.str,1,16,[.str []]⟩
theorem E2:aq Tryz.prog 11 GU:=aq.of (Tryz.underlying11)
def GT:TI:=⟨.int .u64,1,8,[.int .u64 0]⟩
theorem E1:aq Tryz.prog 12 GT:=aq.of (Tryz.underlying12)
def GS:TI:=⟨.struct [(0,9),(1,12)],2,24,[.str [],.int .u64 0]⟩
theorem E0:aq Tryz.prog 13 GS:=aq.of ⟨_,Tryz.underlying13,rfl⟩
def GR:TI:=⟨.struct [(0,9),(1,12)],2,24,[.str [],.int .u64 0]⟩
theorem EZ:aq Tryz.prog 14 GR:=aq.of ⟨_,Tryz.underlying14,rfl⟩
def GQ:TI:=⟨.ptr 303,1,8,[.nilp]⟩
theorem EY:aq Tryz.prog 15 GQ:=aq.of (Tryz.underlying15)
def GP:TI:=⟨.ptr 306,1,8,[.nilp]⟩
theorem EX:aq Tryz.prog 16 GP:=aq.of (Tryz.underlying16)
def GO:TI:=⟨.ptr 313,1,8,[.nilp]⟩
theorem EW:aq Tryz.prog 17 GO:=aq.of (Tryz.underlying17)
def GN:TI:=⟨.struct [(0,17)],1,8,[.nilp]⟩
theorem EV:aq Tryz.prog 18 GN:=aq.of ⟨_,Tryz.underlying18,rfl⟩
def GM:TI:=⟨.struct [(0,17)],1,8,[.nilp]⟩
theorem EU:aq Tryz.prog 19 GM:=aq.of ⟨_,Tryz.underlying19,rfl⟩
def GL:TI:=⟨.iface,1,16,[.nili]⟩
theorem ET:aq Tryz.prog 20 GL:=aq.of ⟨_,Tryz.underlying20⟩
def GK:TI:=⟨.int .i32,1,4,[.int .i32 0]⟩
theorem ES:aq Tryz.prog 21 GK:=aq.of (Tryz.underlying21)
def GJ:TI:=⟨.slice 59,1,24,[.nil]⟩
theorem ER:aq Tryz.prog 22 GJ:=aq.of (Tryz.underlying22)
def GI:TI:=⟨.slice 120,1,24,[.nil]⟩
theorem EQ:aq Tryz.prog 23 GI:=aq.of (Tryz.underlying23)
def GH:TI:=⟨.struct [(0,22),(1,23)],2,48,[.nil,.nil]⟩
theorem EP:aq Tryz.prog 24 GH:=aq.of ⟨_,Tryz.underlying24,rfl⟩
def GG:TI:=⟨.struct [(0,22),(1,23)],2,48,[.nil,.nil]⟩
theorem EO:aq Tryz.prog 25 GG:=aq.of ⟨_,Tryz.underlying25,rfl⟩
def GF:TI:=⟨.struct [(0,3),(1,3),(2,3),(3,3),(4,4)],5,40,[.int .i64 0,.int .i64 0,.int .i64 0,.int .i64 0,.bool false]⟩
theorem EN:aq Tryz.prog 26 GF:=aq.of ⟨_,Tryz.underlying26,rfl⟩
def GE:TI:=⟨.struct [(0,3),(1,3),(2,3),(3,3),(4,4)],5,40,[.int .i64 0,.int .i64 0,.int .i64 0,.int .i64 0,.bool false]⟩
theorem EM:aq Tryz.prog 27 GE:=aq.of ⟨_,Tryz.underlying27,rfl⟩
def GD:TI:=⟨.struct [(0,3),(1,3),(2,3)],3,24,[.int .i64 0,.int .i64 0,.int .i64 0]⟩
theorem EL:aq Tryz.prog 28 GD:=aq.of ⟨_,Tryz.underlying28,rfl⟩
def GC:TI:=⟨.struct [(0,3),(1,3),(2,3)],3,24,[.int .i64 0,.int .i64 0,.int .i64 0]⟩
theorem EK:aq Tryz.prog 29 GC:=aq.of ⟨_,Tryz.underlying29,rfl⟩
def GB:TI:=⟨.slice 3,1,24,[.nil]⟩
theorem EJ:aq Tryz.prog 30 GB:=aq.of (Tryz.underlying30)
def GA:TI:=⟨.struct [(0,3),(1,3),(2,3),(3,30),(4,30)],5,72,[.int .i64 0,.int .i64 0,.int .i64 0,.nil,.nil]⟩
theorem EI:aq Tryz.prog 31 GA:=aq.of ⟨_,Tryz.underlying31,rfl⟩
def Gz:TI:=⟨.struct [(0,3),(1,3),(2,3),(3,30),(4,30)],5,72,[.int .i64 0,.int .i64 0,.int .i64 0,.nil,.nil]⟩
theorem EH:aq Tryz.prog 32 Gz:=aq.of ⟨_,Tryz.underlying32,rfl⟩
def Gy:TI:=⟨.slice 64,1,24,[.nil]⟩
theorem EG:aq Tryz.prog 33 Gy:=aq.of (Tryz.underlying33)
def Gx:TI:=⟨.struct [(0,9),(1,25),(3,3),(4,27),(9,29),(12,32),(17,33)],18,232,[.str [],.nil,.nil,.int .i64 0,.int .i64 0,.int .i64 0,.int .i64 0,.int .i64 0,.bool false,.int .i64 0,.int .i64 0,.int .i64 0,.int .i64 0,.int .i64 0,.int .i64 0,.nil,.nil,.nil]⟩
theorem EF:aq Tryz.prog 34 Gx:=aq.of ⟨_,Tryz.underlying34,rfl⟩
def Gw:TI:=⟨.struct [(0,9),(1,25),(3,3),(4,27),(9,29),(12,32),(17,33)],18,232,[.str [],.nil,.nil,.int .i64 0,.int .i64 0,.int .i64 0,.int .i64 0,.int .i64 0,.bool false,.int .i64 0,.int .i64 0,.int .i64 0,.int .i64 0,.int .i64 0,.int .i64 0,.nil,.nil,.nil]⟩
theorem EE:aq Tryz.prog 35 Gw:=aq.of ⟨_,Tryz.underlying35,rfl⟩
def Gv:TI:=⟨.slice 116,1,24,[.nil]⟩
theorem ED:aq Tryz.prog 38 Gv:=aq.of (Tryz.underlying38)
def Gu:TI:=⟨.slice 136,1,24,[.nil]⟩
theorem EC:aq Tryz.prog 39 Gu:=aq.of (Tryz.underlying39)
def Gt:TI:=⟨.struct [(0,38),(1,39)],2,48,[.nil,.nil]⟩
theorem EB:aq Tryz.prog 40 Gt:=aq.of ⟨_,Tryz.underlying40,rfl⟩
def Gs:TI:=⟨.struct [(0,38),(1,39)],2,48,[.nil,.nil]⟩
theorem EA:aq Tryz.prog 41 Gs:=aq.of ⟨_,Tryz.underlying41,rfl⟩
def Gr:TI:=⟨.int .i64,1,8,[.int .i64 0]⟩
theorem Ez:aq Tryz.prog 42 Gr:=aq.of (Tryz.underlying42)
def Gq:TI:=⟨.slice 75,1,24,[.nil]⟩
theorem Ey:aq Tryz.prog 45 Gq:=aq.of (Tryz.underlying45)
def Gp:TI:=⟨.struct [(0,45),(1,29),(4,29),(7,3),(8,3),(9,3),(10,3),(11,3),(12,3),(13,30),(14,30),(15,30)],16,192,[.nil,.int .i64 0,.int .i64 0,.int .i64 0,.int .i64 0,.int .i64 0,.int .i64 0,.int .i64 0,.int .i64 0,.int .i64 0,.int .i64 0,.int .i64 0,.int .i64 0,.nil,.nil,.nil]⟩
theorem Ew:aq Tryz.prog 46 Gp:=aq.of ⟨_,Tryz.underlying46,rfl⟩
def Gn:TI:=⟨.struct [(0,45),(1,29),(4,29),(7,3),(8,3),(9,3),(10,3),(11,3),(12,3),(13,30),(14,30),(15,30)],16,192,[.nil,.int .i64 0,.int .i64 0,.int .i64 0,.int .i64 0,.int .i64 0,.int .i64 0,.int .i64 0,.int .i64 0,.int .i64 0,.int .i64 0,.int .i64 0,.int .i64 0,.nil,.nil,.nil]⟩
theorem Eu:aq Tryz.prog 47 Gn:=aq.of ⟨_,Tryz.underlying47,rfl⟩
def Gm:TI:=⟨.struct [(0,41),(2,25),(4,3)],5,104,[.nil,.nil,.nil,.nil,.int .i64 0]⟩
theorem Et:aq Tryz.prog 50 Gm:=aq.of ⟨_,Tryz.underlying50,rfl⟩
def Gl:TI:=⟨.struct [(0,41),(2,25),(4,3)],5,104,[.nil,.nil,.nil,.nil,.int .i64 0]⟩
theorem Es:aq Tryz.prog 51 Gl:=aq.of ⟨_,Tryz.underlying51,rfl⟩
def Gk:TI:=⟨.int .u64,1,8,[.int .u64 0]⟩
theorem Er:aq Tryz.prog 53 Gk:=aq.of (Tryz.underlying53)
def Gj:TI:=⟨.struct [(0,3),(1,3),(2,3),(3,30),(4,30)],5,72,[.int .i64 0,.int .i64 0,.int .i64 0,.nil,.nil]⟩
theorem Ep:aq Tryz.prog 55 Gj:=aq.of ⟨_,Tryz.underlying55,rfl⟩
def Gi:TI:=⟨.int .u16,1,2,[.int .u16 0]⟩
theorem Eo:aq Tryz.prog 57 Gi:=aq.of (Tryz.underlying57)
def Gg:TI:=⟨.struct [(0,3),(1,3)],2,16,[.int .i64 0,.int .i64 0]⟩
theorem En:aq Tryz.prog 58 Gg:=aq.of ⟨_,Tryz.underlying58,rfl⟩
def Gf:TI:=⟨.struct [(0,3),(1,3)],2,16,[.int .i64 0,.int .i64 0]⟩
theorem Em:aq Tryz.prog 59 Gf:=aq.of ⟨_,Tryz.underlying59,rfl⟩
def Ge:TI:=⟨.struct [(0,3),(1,3),(2,3),(3,3)],4,32,[.int .i64 0,.int .i64 0,.int .i64 0,.int .i64 0]⟩
theorem El:aq Tryz.prog 63 Ge:=aq.of ⟨_,Tryz.underlying63,rfl⟩
def Gd:TI:=⟨.struct [(0,3),(1,3),(2,3),(3,3)],4,32,[.int .i64 0,.int .i64 0,.int .i64 0,.int .i64 0]⟩
theorem Ek:aq Tryz.prog 64 Gd:=aq.of ⟨_,Tryz.underlying64,rfl⟩
def Gc:TI:=⟨.slice 72,1,24,[.nil]⟩
theorem Ej:aq Tryz.prog 65 Gc:=aq.of (Tryz.underlying65)
def Gb:TI:=⟨.slice 315,1,24,[.nil]⟩
theorem Ei:aq Tryz.prog 68 Gb:=aq.of (Tryz.underlying68)
def Ga:TI:=⟨.struct [(0,3),(1,3),(2,3),(3,3),(4,3),(5,47),(21,68)],22,256,[.int .i64 0,.int .i64 0,.int .i64 0,.int .i64 0,.int .i64 0,.nil,.int .i64 0,.int .i64 0,.int .i64 0,.int .i64 0,.int .i64 0,.int .i64 0,.int .i64 0,.int .i64 0,.int .i64 0,.int .i64 0,.int .i64 0,.int .i64 0,.nil,.nil,.nil,.nil]⟩
theorem Eh:aq Tryz.prog 69 Ga:=aq.of ⟨_,Tryz.underlying69,rfl⟩
def F_:TI:=⟨.struct [(0,3),(1,3),(2,3),(3,3),(4,3),(5,47),(21,68)],22,256,[.int .i64 0,.int .i64 0,.int .i64 0,.int .i64 0,.int .i64 0,.nil,.int .i64 0,.int .i64 0,.int .i64 0,.int .i64 0,.int .i64 0,.int .i64 0,.int .i64 0,.int .i64 0,.int .i64 0,.int .i64 0,.int .i64 0,.int .i64 0,.nil,.nil,.nil,.nil]⟩
theorem Eg:aq Tryz.prog 70 F_:=aq.of ⟨_,Tryz.underlying70,rfl⟩
def F9:TI:=⟨.struct [(0,3),(1,3),(2,3)],3,24,[.int .i64 0,.int .i64 0,.int .i64 0]⟩
theorem Ef:aq Tryz.prog 71 F9:=aq.of ⟨_,Tryz.underlying71,rfl⟩
def F8:TI:=⟨.struct [(0,3),(1,3),(2,3)],3,24,[.int .i64 0,.int .i64 0,.int .i64 0]⟩
theorem Ee:aq Tryz.prog 72 F8:=aq.of ⟨_,Tryz.underlying72,rfl⟩
def F7:TI:=⟨.struct [(0,9),(1,9),(2,3)],3,40,[.str [],.str [],.int .i64 0]⟩
theorem Ed:aq Tryz.prog 74 F7:=aq.of ⟨_,Tryz.underlying74,rfl⟩
def F6:TI:=⟨.struct [(0,9),(1,9),(2,3)],3,40,[.str [],.str [],.int .i64 0]⟩
theorem Ec:aq Tryz.prog 75 F6:=aq.of ⟨_,Tryz.underlying75,rfl⟩
def F5:TI:=⟨.slice 104,1,24,[.nil]⟩
theorem Eb:aq Tryz.prog 76 F5:=aq.of (Tryz.underlying76)
def F4:TI:=⟨.ptr 81,1,8,[.nilp]⟩
theorem Ea:aq Tryz.prog 79 F4:=aq.of (Tryz.underlying79)
def F3:TI:=⟨.struct [(0,76),(1,3),(2,3),(3,41),(5,42),(6,3)],7,104,[.nil,.int .i64 0,.int .i64 0,.nil,.nil,.int .i64 0,.int .i64 0]⟩
theorem D_:aq Tryz.prog 80 F3:=aq.of ⟨_,Tryz.underlying80,rfl⟩
def F2:TI:=⟨.struct [(0,76),(1,3),(2,3),(3,41),(5,42),(6,3)],7,104,[.nil,.int .i64 0,.int .i64 0,.nil,.nil,.int .i64 0,.int .i64 0]⟩
theorem D9:aq Tryz.prog 81 F2:=aq.of ⟨_,Tryz.underlying81,rfl⟩
def F1:TI:=⟨.cpx .f64,1,16,[.cpx .f64 0 0]⟩
theorem D8:aq Tryz.prog 90 F1:=aq.of (Tryz.underlying90)
def F0:TI:=⟨.flt .f64,1,8,[.flt .f64 0]⟩
theorem D7:aq Tryz.prog 93 F0:=aq.of (Tryz.underlying93)
def DN:TI:=⟨.struct [(0,3),(1,9),(2,3)],3,32,[.int .i64 0,.str [],.int .i64 0]⟩
theorem At:aq Tryz.prog 103 DN:=aq.of ⟨_,Tryz.underlying103,rfl⟩
def DM:TI:=⟨.struct [(0,3),(1,9),(2,3)],3,32,[.int .i64 0,.str [],.int .i64 0]⟩
theorem As:aq Tryz.prog 104 DM:=aq.of ⟨_,Tryz.underlying104,rfl⟩
def DL:TI:=⟨.slice 9,1,24,[.nil]⟩
theorem Ar:aq Tryz.prog 107 DL:=aq.of (Tryz.underlying107)
def DK:TI:=⟨.struct [(0,9),(1,9),(2,3)],3,40,[.str [],.str [],.int .i64 0]⟩
theorem Aq:aq Tryz.prog 115 DK:=aq.of ⟨_,Tryz.underlying115,rfl⟩
def DJ:TI:=⟨.struct [(0,9),(1,9),(2,3)],3,40,[.str [],.str [],.int .i64 0]⟩
theorem Ap:aq Tryz.prog 116 DJ:=aq.of ⟨_,Tryz.underlying116,rfl⟩
def DI:TI:=⟨.struct [(0,3),(1,3),(2,3)],3,24,[.int .i64 0,.int .i64 0,.int .i64 0]⟩
theorem Ao:aq Tryz.prog 119 DI:=aq.of ⟨_,Tryz.underlying119,rfl⟩
def DH:TI:=⟨.struct [(0,3),(1,3),(2,3)],3,24,[.int .i64 0,.int .i64 0,.int .i64 0]⟩
theorem An:aq Tryz.prog 120 DH:=aq.of ⟨_,Tryz.underlying120,rfl⟩
def DG:TI:=⟨.struct [(0,9),(1,9),(2,3),(3,3),(4,3),(5,3)],6,64,[.str [],.str [],.int .i64 0,.int .i64 0,.int .i64 0,.int .i64 0]⟩
theorem Am:aq Tryz.prog 135 DG:=aq.of ⟨_,Tryz.underlying135,rfl⟩
def DF:TI:=⟨.struct [(0,9),(1,9),(2,3),(3,3),(4,3),(5,3)],6,64,[.str [],.str [],.int .i64 0,.int .i64 0,.int .i64 0,.int .i64 0]⟩
theorem Al:aq Tryz.prog 136 DF:=aq.of ⟨_,Tryz.underlying136,rfl⟩
def DE:TI:=⟨.slice 143,1,24,[.nil]⟩
theorem Ak:aq Tryz.prog 140 DE:=aq.of (Tryz.underlying140)
def DD:TI:=⟨.struct [(0,9),(1,3),(2,3)],3,32,[.str [],.int .i64 0,.int .i64 0]⟩
theorem Aj:aq Tryz.prog 142 DD:=aq.of ⟨_,Tryz.underlying142,rfl⟩
def DC:TI:=⟨.struct [(0,9),(1,3),(2,3)],3,32,[.str [],.int .i64 0,.int .i64 0]⟩
theorem Ai:aq Tryz.prog 143 DC:=aq.of ⟨_,Tryz.underlying143,rfl⟩
def DB:TI:=⟨.slice 169,1,24,[.nil]⟩
theorem Ah:aq Tryz.prog 164 DB:=aq.of (Tryz.underlying164)
def DA:TI:=⟨.struct [(0,9),(1,3)],2,24,[.str [],.int .i64 0]⟩
theorem Ag:aq Tryz.prog 168 DA:=aq.of ⟨_,Tryz.underlying168,rfl⟩
def Dz:TI:=⟨.struct [(0,9),(1,3)],2,24,[.str [],.int .i64 0]⟩
theorem Ae:aq Tryz.prog 169 Dz:=aq.of ⟨_,Tryz.underlying169,rfl⟩
def Dy:TI:=⟨.slice 173,1,24,[.nil]⟩
theorem Ad:aq Tryz.prog 170 Dy:=aq.of (Tryz.underlying170)
def Dx:TI:=⟨.struct [(0,3),(1,3),(2,4)],3,24,[.int .i64 0,.int .i64 0,.bool false]⟩
theorem Ac:aq Tryz.prog 172 Dx:=aq.of ⟨_,Tryz.underlying172,rfl⟩
def Dw:TI:=⟨.struct [(0,3),(1,3),(2,4)],3,24,[.int .i64 0,.int .i64 0,.bool false]⟩
theorem Ab:aq Tryz.prog 173 Dw:=aq.of ⟨_,Tryz.underlying173,rfl⟩
def Dv:TI:=⟨.int .u64,1,8,[.int .u64 0]⟩
theorem Aa:aq Tryz.prog 180 Dv:=aq.of (Tryz.underlying180)
def Du:TI:=⟨.iface,1,16,[.nili]⟩
theorem z_:aq Tryz.prog 189 Du:=aq.of ⟨_,Tryz.underlying189⟩
def Dt:TI:=⟨.iface,1,16,[.nili]⟩
theorem zZ:aq Tryz.prog 190 Dt:=aq.of ⟨_,Tryz.underlying190⟩
def Ds:TI:=⟨.map 9 3,1,8,[.nilm]⟩
theorem zY:aq Tryz.prog 198 Ds:=aq.of (Tryz.underlying198)
def Dr:TI:=⟨.slice 4,1,24,[.nil]⟩
theorem zX:aq Tryz.prog 201 Dr:=aq.of (Tryz.underlying201)
def Dq:TI:=⟨.int .i64,1,8,[.int .i64 0]⟩
theorem zW:aq Tryz.prog 215 Dq:=aq.of (Tryz.underlying215)
def Dp:TI:=⟨.int .u32,1,4,[.int .u32 0]⟩
theorem zV:aq Tryz.prog 223 Dp:=aq.of (Tryz.underlying223)
def Do:TI:=⟨.ptr 235,1,8,[.nilp]⟩
theorem zU:aq Tryz.prog 232 Do:=aq.of (Tryz.underlying232)
def Dn:TI:=⟨.slice 5,1,24,[.nil]⟩
theorem zQ:aq Tryz.prog 233 Dn:=aq.of (Tryz.underlying233)
def Dm:TI:=⟨.struct [(0,232),(1,233)],2,32,[.nilp,.nil]⟩
theorem zM:aq Tryz.prog 234 Dm:=aq.of ⟨_,Tryz.underlying234,rfl⟩
def Dl:TI:=⟨.struct [(0,232),(1,233)],2,32,[.nilp,.nil]⟩
theorem zK:aq Tryz.prog 235 Dl:=aq.of ⟨_,Tryz.underlying235,rfl⟩
def Dk:TI:=⟨.int .u64,1,8,[.int .u64 0]⟩
theorem zJ:aq Tryz.prog 251 Dk:=aq.of (Tryz.underlying251)
def Dj:TI:=⟨.ptr 3,1,8,[.nilp]⟩
theorem zI:aq Tryz.prog 255 Dj:=aq.of (Tryz.underlying255)
def Di:TI:=⟨.int .i64,1,8,[.int .i64 0]⟩
theorem zH:aq Tryz.prog 257 Di:=aq.of (Tryz.underlying257)
def Dh:TI:=⟨.ptr 271,1,8,[.nilp]⟩
theorem zA:aq Tryz.prog 260 Dh:=aq.of (Tryz.underlying260)
def Df:TI:=⟨.ptr 5,1,8,[.nilp]⟩
theorem zz:aq Tryz.prog 263 Df:=aq.of (Tryz.underlying263)
def De:TI:=⟨.ptr 251,1,8,[.nilp]⟩
theorem zy:aq Tryz.prog 265 De:=aq.of (Tryz.underlying265)
def Dd:TI:=⟨.struct [(0,9),(1,9),(2,190)],3,48,[.str [],.str [],.nili]⟩
theorem zx:aq Tryz.prog 270 Dd:=aq.of ⟨_,Tryz.underlying270,rfl⟩
def Dc:TI:=⟨.struct [(0,9),(1,9),(2,190)],3,48,[.str [],.str [],.nili]⟩
theorem zw:aq Tryz.prog 271 Dc:=aq.of ⟨_,Tryz.underlying271,rfl⟩
def Db:TI:=⟨.array 256 5,256,256,List.replicate 256 (.int .u8 0)⟩
theorem zu:aq Tryz.prog 276 Db:=aq.of (Tryz.underlying276)
def Da:TI:=⟨.struct [(0,5),(1,5)],2,2,[.int .u8 0,.int .u8 0]⟩
theorem zt:aq Tryz.prog 277 Da:=aq.of ⟨_,Tryz.underlying277,rfl⟩
def C_:TI:=⟨.struct [(0,5),(1,5)],2,2,[.int .u8 0,.int .u8 0]⟩
theorem zq:aq Tryz.prog 278 C_:=aq.of ⟨_,Tryz.underlying278,rfl⟩
def C9:TI:=⟨.array 16 278,32,32,[.int .u8 0,.int .u8 0,.int .u8 0,.int .u8 0,.int .u8 0,.int .u8 0,.int .u8 0,.int .u8 0,.int .u8 0,.int .u8 0,.int .u8 0,.int .u8 0,.int .u8 0,.int .u8 0,.int .u8 0,.int .u8 0,.int .u8 0,.int .u8 0,.int .u8 0,.int .u8 0,.int .u8 0,.int .u8 0,.int .u8 0,.int .u8 0,.int .u8 0,.int .u8 0,.int .u8 0,.int .u8 0,.int .u8 0,.int .u8 0,.int .u8 0,.int .u8 0]⟩
theorem zp:aq Tryz.prog 279 C9:=aq.of (Tryz.underlying279)
def C8:TI:=⟨.struct [(0,9),(1,3),(2,3)],3,32,[.str [],.int .i64 0,.int .i64 0]⟩
theorem zo:aq Tryz.prog 281 C8:=aq.of ⟨_,Tryz.underlying281,rfl⟩
def C7:TI:=⟨.struct [(0,9),(1,3),(2,3)],3,32,[.str [],.int .i64 0,.int .i64 0]⟩
theorem zn:aq Tryz.prog 282 C7:=aq.of ⟨_,Tryz.underlying282,rfl⟩
def C6:TI:=⟨.slice 282,1,24,[.nil]⟩
theorem zm:aq Tryz.prog 283 C6:=aq.of (Tryz.underlying283)
def C5:TI:=⟨.ptr 289,1,8,[.nilp]⟩
theorem zl:aq Tryz.prog 287 C5:=aq.of (Tryz.underlying287)
def C4:TI:=⟨.struct [(0,9)],1,16,[.str []]⟩
theorem zk:aq Tryz.prog 288 C4:=aq.of ⟨_,Tryz.underlying288,rfl⟩
def C3:TI:=⟨.struct [(0,9)],1,16,[.str []]⟩
theorem zj:aq Tryz.prog 289 C3:=aq.of ⟨_,Tryz.underlying289,rfl⟩
def C2:TI:=⟨.array 24 5,24,24,[.int .u8 0,.int .u8 0,.int .u8 0,.int .u8 0,.int .u8 0,.int .u8 0,.int .u8 0,.int .u8 0,.int .u8 0,.int .u8 0,.int .u8 0,.int .u8 0,.int .u8 0,.int .u8 0,.int .u8 0,.int .u8 0,.int .u8 0,.int .u8 0,.int .u8 0,.int .u8 0,.int .u8 0,.int .u8 0,.int .u8 0,.int .u8 0]⟩
theorem zi:aq Tryz.prog 292 C2:=aq.of (Tryz.underlying292)
def C1:TI:=⟨.array 20 53,20,160,[.int .u64 0,.int .u64 0,.int .u64 0,.int .u64 0,.int .u64 0,.int .u64 0,.int .u64 0,.int .u64 0,.int .u64 0,.int .u64 0,.int .u64 0,.int .u64 0,.int .u64 0,.int .u64 0,.int .u64 0,.int .u64 0,.int .u64 0,.int .u64 0,.int .u64 0,.int .u64 0]⟩
theorem zh:aq Tryz.prog 298 C1:=aq.of (Tryz.underlying298)
def C0:TI:=⟨.array 65 5,65,65,List.replicate 65 (.int .u8 0)⟩
theorem zg:aq Tryz.prog 299 C0:=aq.of (Tryz.underlying299)
def CZ:TI:=⟨.array 32 5,32,32,[.int .u8 0,.int .u8 0,.int .u8 0,.int .u8 0,.int .u8 0,.int .u8 0,.int .u8 0,.int .u8 0,.int .u8 0,.int .u8 0,.int .u8 0,.int .u8 0,.int .u8 0,.int .u8 0,.int .u8 0,.int .u8 0,.int .u8 0,.int .u8 0,.int .u8 0,.int .u8 0,.int .u8 0,.int .u8 0,.int .u8 0,.int .u8 0,.int .u8 0,.int .u8 0,.int .u8 0,.int .u8 0,.int .u8 0,.int .u8 0,.int .u8 0,.int .u8 0]⟩
theorem zf:aq Tryz.prog 300 CZ:=aq.of (Tryz.underlying300)
def CY:TI:=⟨.array 64 5,64,64,[.int .u8 0,.int .u8 0,.int .u8 0,.int .u8 0,.int .u8 0,.int .u8 0,.int .u8 0,.int .u8 0,.int .u8 0,.int .u8 0,.int .u8 0,.int .u8 0,.int .u8 0,.int .u8 0,.int .u8 0,.int .u8 0,.int .u8 0,.int .u8 0,.int .u8 0,.int .u8 0,.int .u8 0,.int .u8 0,.int .u8 0,.int .u8 0,.int .u8 0,.int .u8 0,.int .u8 0,.int .u8 0,.int .u8 0,.int .u8 0,.int .u8 0,.int .u8 0,.int .u8 0,.int .u8 0,.int .u8 0,.int .u8 0,.int .u8 0,.int .u8 0,.int .u8 0,.int .u8 0,.int .u8 0,.int .u8 0,.int .u8 0,.int .u8 0,.int .u8 0,.int .u8 0,.int .u8 0,.int .u8 0,.int .u8 0,.int .u8 0,.int .u8 0,.int .u8 0,.int .u8 0,.int .u8 0,.int .u8 0,.int .u8 0,.int .u8 0,.int .u8 0,.int .u8 0,.int .u8 0,.int .u8 0,.int .u8 0,.int .u8 0,.int .u8 0]⟩
theorem ze:aq Tryz.prog 301 CY:=aq.of (Tryz.underlying301)
def CX:TI:=⟨.struct [(0,17),(1,17),(2,17),(3,9)],4,40,[.nilp,.nilp,.nilp,.str []]⟩
theorem zd:aq Tryz.prog 302 CX:=aq.of ⟨_,Tryz.underlying302,rfl⟩
def CW:TI:=⟨.struct [(0,17),(1,17),(2,17),(3,9)],4,40,[.nilp,.nilp,.nilp,.str []]⟩
theorem zc:aq Tryz.prog 303 CW:=aq.of ⟨_,Tryz.underlying303,rfl⟩
def CV:TI:=⟨.array 0 16,0,0,[]⟩
theorem zb:aq Tryz.prog 304 CV:=aq.of (Tryz.underlying304)
def CU:TI:=⟨.struct [(0,304)],0,0,[]⟩
theorem za:aq Tryz.prog 305 CU:=aq.of ⟨_,Tryz.underlying305,rfl⟩
def CT:TI:=⟨.struct [(0,304)],0,0,[]⟩
theorem y_:aq Tryz.prog 306 CT:=aq.of ⟨_,Tryz.underlying306,rfl⟩
def CS:TI:=⟨.int .u8,1,1,[.int .u8 0]⟩
theorem y9:aq Tryz.prog 307 CS:=aq.of (Tryz.underlying307)
def CR:TI:=⟨.int .u8,1,1,[.int .u8 0]⟩
theorem y8:aq Tryz.prog 308 CR:=aq.of (Tryz.underlying308)
def CQ:TI:=⟨.int .i32,1,4,[.int .i32 0]⟩
theorem y7:aq Tryz.prog 310 CQ:=aq.of (Tryz.underlying310)
def CP:TI:=⟨.int .i32,1,4,[.int .i32 0]⟩
theorem y6:aq Tryz.prog 311 CP:=aq.of (Tryz.underlying311)
def CO:TI:=⟨.struct [(0,3),(1,29)],4,32,[.int .i64 0,.int .i64 0,.int .i64 0,.int .i64 0]⟩
theorem y5:aq Tryz.prog 314 CO:=aq.of ⟨_,Tryz.underlying314,rfl⟩
def CN:TI:=⟨.struct [(0,3),(1,29)],4,32,[.int .i64 0,.int .i64 0,.int .i64 0,.int .i64 0]⟩
theorem y4:aq Tryz.prog 315 CN:=aq.of ⟨_,Tryz.underlying315,rfl⟩
def G1:List (Nat×TI):=[(2,ti2),(3,ti3),(4,ti4),(5,ti5),(6,ti6),(7,ti7),(8,ti8),(9,ti9),(10,GW),(11,GU),(12,GT),(13,GS),(14,GR),(15,GQ),(16,GP),(17,GO),(18,GN),(19,GM),(20,GL),(21,GK),(22,GJ),(23,GI),(24,GH),(25,GG),(26,GF),(27,GE),(28,GD),(29,GC),(30,GB),(31,GA),(32,Gz),(33,Gy),(34,Gx),(35,Gw),(38,Gv),(39,Gu),(40,Gt),(41,Gs),(42,Gr),(45,Gq),(46,Gp),(47,Gn),(50,Gm),(51,Gl),(53,Gk),(55,Gj),(57,Gi),(58,Gg),(59,Gf),(63,Ge),(64,Gd),(65,Gc),(68,Gb),(69,Ga),(70,F_),(71,F9),(72,F8),(74,F7),(75,F6),(76,F5),(79,F4),(80,F3),(81,F2),(90,F1),(93,F0),(103,DN),(104,DM),(107,DL),(115,DK),(116,DJ),(119,DI),(120,DH),(135,DG),(136,DF),(140,DE),(142,DD),(143,DC),(164,DB),(168,DA),(169,Dz),(170,Dy),(172,Dx),(173,Dw),(180,Dv),(189,Du),(190,Dt),(198,Ds),(201,Dr),(215,Dq),(223,Dp),(232,Do),(233,Dn),(234,Dm),(235,Dl),(251,Dk),(255,Dj),(257,Di),(260,Dh),(263,Df),(265,De),(270,Dd),(271,Dc),(276,Db),(277,Da),(278,C_),(279,C9),(281,C8),(282,C7),(283,C6),(287,C5),(288,C4),(289,C3),(292,C2),(298,C1),(299,C0),(300,CZ),(301,CY),(302,CX),(303,CW),(304,CV),(305,CU),(306,CT),(307,CS),(308,CR),(310,CQ),(311,CP),(314,CO),(315,CN)]
def tab (t:Nat):Option TI:=qk G1 t
theorem tabOk:aP Tryz.prog tab:=λ_ _ h=>Hp (show FN Tryz.prog G1 from⟨FZ,FY,FX,FW,FU,FT,FS,FR,E3,E2,E1,E0,EZ,EY,EX,EW,EV,EU,ET,ES,ER,EQ,EP,EO,EN,EM,EL,EK,EJ,EI,EH,EG,EF,EE,ED,EC,EB,EA,Ez,Ey,Ew,Eu,Et,Es,Er,Ep,Eo,En,Em,El,Ek,Ej,Ei,Eh,Eg,Ef,Ee,Ed,Ec,Eb,Ea,D_,D9,D8,D7,At,As,Ar,Aq,Ap,Ao,An,Am,Al,Ak,Aj,Ai,Ah,Ag,Ae,Ad,Ac,Ab,Aa,z_,zZ,zY,zX,zW,zV,zU,zQ,zM,zK,zJ,zI,zH,zA,zz,zy,zx,zw,zu,zt,zq,zp,zo,zn,zm,zl,zk,zj,zi,zh,zg,zf,ze,zd,zc,zb,za,y_,y9,y8,y7,y6,y5,y4,trivial⟩) h
@[simp] theorem Jv:tab 2=some ⟨.int .i64,1,8,[.int .i64 0]⟩:=rfl
@[simp] theorem lP:tab 3=some ⟨.int .i64,1,8,[.int .i64 0]⟩:=rfl
@[simp] theorem G0:tab 4=some ⟨.bool,1,1,[.bool false]⟩:=rfl
@[simp] theorem Ju:tab 5=some ⟨.int .u8,1,1,[.int .u8 0]⟩:=rfl
@[simp] theorem Jt:tab 6=some ⟨.int .u8,1,1,[.int .u8 0]⟩:=rfl
@[simp] theorem Js:tab 7=some ⟨.struct [(0,2),(1,3),(2,4),(3,6)],4,24,[.int .i64 0,.int .i64 0,.bool false,.int .u8 0]⟩:=rfl
@[simp] theorem Jr:tab 8=some ⟨.struct [(0,2),(1,3),(2,4),(3,6)],4,24,[.int .i64 0,.int .i64 0,.bool false,.int .u8 0]⟩:=rfl
@[simp] theorem GZ:tab 9=some ⟨.str,1,16,[.str []]⟩:=rfl
@[simp] theorem Jf:tab 10=some ⟨.str,1,16,[.str []]⟩:=rfl
@[simp] theorem Je:tab 11=some ⟨.str,1,16,[.str []]⟩:=rfl
@[simp] theorem Jd:tab 12=some ⟨.int .u64,1,8,[.int .u64 0]⟩:=rfl
@[simp] theorem Jc:tab 13=some ⟨.struct [(0,9),(1,12)],2,24,[.str [],.int .u64 0]⟩:=rfl
@[simp] theorem Jb:tab 14=some ⟨.struct [(0,9),(1,12)],2,24,[.str [],.int .u64 0]⟩:=rfl
@[simp] theorem Ja:tab 15=some ⟨.ptr 303,1,8,[.nilp]⟩:=rfl
@[simp] theorem I_:tab 16=some ⟨.ptr 306,1,8,[.nilp]⟩:=rfl
@[simp] theorem I9:tab 17=some ⟨.ptr 313,1,8,[.nilp]⟩:=rfl
@[simp] theorem I8:tab 18=some ⟨.struct [(0,17)],1,8,[.nilp]⟩:=rfl
@[simp] theorem I7:tab 19=some ⟨.struct [(0,17)],1,8,[.nilp]⟩:=rfl
@[simp] theorem I6:tab 20=some ⟨.iface,1,16,[.nili]⟩:=rfl
@[simp] theorem I4:tab 21=some ⟨.int .i32,1,4,[.int .i32 0]⟩:=rfl
@[simp] theorem Fa:tab 22=some ⟨.slice 59,1,24,[.nil]⟩:=rfl
@[simp] theorem E_:tab 23=some ⟨.slice 120,1,24,[.nil]⟩:=rfl
@[simp] theorem I3:tab 24=some ⟨.struct [(0,22),(1,23)],2,48,[.nil,.nil]⟩:=rfl
@[simp] theorem vJ:tab 25=some ⟨.struct [(0,22),(1,23)],2,48,[.nil,.nil]⟩:=rfl
@[simp] theorem IZ:tab 26=some ⟨.struct [(0,3),(1,3),(2,3),(3,3),(4,4)],5,40,[.int .i64 0,.int .i64 0,.int .i64 0,.int .i64 0,.bool false]⟩:=rfl
@[simp] theorem E9:tab 27=some ⟨.struct [(0,3),(1,3),(2,3),(3,3),(4,4)],5,40,[.int .i64 0,.int .i64 0,.int .i64 0,.int .i64 0,.bool false]⟩:=rfl
@[simp] theorem IY:tab 28=some ⟨.struct [(0,3),(1,3),(2,3)],3,24,[.int .i64 0,.int .i64 0,.int .i64 0]⟩:=rfl
@[simp] theorem E8:tab 29=some ⟨.struct [(0,3),(1,3),(2,3)],3,24,[.int .i64 0,.int .i64 0,.int .i64 0]⟩:=rfl
@[simp] theorem vI:tab 30=some ⟨.slice 3,1,24,[.nil]⟩:=rfl
@[simp] theorem IX:tab 31=some ⟨.struct [(0,3),(1,3),(2,3),(3,30),(4,30)],5,72,[.int .i64 0,.int .i64 0,.int .i64 0,.nil,.nil]⟩:=rfl
@[simp] theorem E7:tab 32=some ⟨.struct [(0,3),(1,3),(2,3),(3,30),(4,30)],5,72,[.int .i64 0,.int .i64 0,.int .i64 0,.nil,.nil]⟩:=rfl
@[simp] theorem E6:tab 33=some ⟨.slice 64,1,24,[.nil]⟩:=rfl
@[simp] theorem IW:tab 34=some ⟨.struct [(0,9),(1,25),(3,3),(4,27),(9,29),(12,32),(17,33)],18,232,[.str [],.nil,.nil,.int .i64 0,.int .i64 0,.int .i64 0,.int .i64 0,.int .i64 0,.bool false,.int .i64 0,.int .i64 0,.int .i64 0,.int .i64 0,.int .i64 0,.int .i64 0,.nil,.nil,.nil]⟩:=rfl
@[simp] theorem rF:tab 35=some ⟨.struct [(0,9),(1,25),(3,3),(4,27),(9,29),(12,32),(17,33)],18,232,[.str [],.nil,.nil,.int .i64 0,.int .i64 0,.int .i64 0,.int .i64 0,.int .i64 0,.bool false,.int .i64 0,.int .i64 0,.int .i64 0,.int .i64 0,.int .i64 0,.int .i64 0,.nil,.nil,.nil]⟩:=rfl
@[simp] theorem IV:tab 38=some ⟨.slice 116,1,24,[.nil]⟩:=rfl
@[simp] theorem IU:tab 39=some ⟨.slice 136,1,24,[.nil]⟩:=rfl
@[simp] theorem IT:tab 40=some ⟨.struct [(0,38),(1,39)],2,48,[.nil,.nil]⟩:=rfl
@[simp] theorem IS:tab 41=some ⟨.struct [(0,38),(1,39)],2,48,[.nil,.nil]⟩:=rfl
@[simp] theorem IR:tab 42=some ⟨.int .i64,1,8,[.int .i64 0]⟩:=rfl
@[simp] theorem IQ:tab 45=some ⟨.slice 75,1,24,[.nil]⟩:=rfl
@[simp] theorem IP:tab 46=some ⟨.struct [(0,45),(1,29),(4,29),(7,3),(8,3),(9,3),(10,3),(11,3),(12,3),(13,30),(14,30),(15,30)],16,192,[.nil,.int .i64 0,.int .i64 0,.int .i64 0,.int .i64 0,.int .i64 0,.int .i64 0,.int .i64 0,.int .i64 0,.int .i64 0,.int .i64 0,.int .i64 0,.int .i64 0,.nil,.nil,.nil]⟩:=rfl
@[simp] theorem IN:tab 47=some ⟨.struct [(0,45),(1,29),(4,29),(7,3),(8,3),(9,3),(10,3),(11,3),(12,3),(13,30),(14,30),(15,30)],16,192,[.nil,.int .i64 0,.int .i64 0,.int .i64 0,.int .i64 0,.int .i64 0,.int .i64 0,.int .i64 0,.int .i64 0,.int .i64 0,.int .i64 0,.int .i64 0,.int .i64 0,.nil,.nil,.nil]⟩:=rfl
@[simp] theorem IM:tab 50=some ⟨.struct [(0,41),(2,25),(4,3)],5,104,[.nil,.nil,.nil,.nil,.int .i64 0]⟩:=rfl
@[simp] theorem IL:tab 51=some ⟨.struct [(0,41),(2,25),(4,3)],5,104,[.nil,.nil,.nil,.nil,.int .i64 0]⟩:=rfl
@[simp] theorem lO:tab 53=some ⟨.int .u64,1,8,[.int .u64 0]⟩:=rfl
@[simp] theorem IK:tab 55=some ⟨.struct [(0,3),(1,3),(2,3),(3,30),(4,30)],5,72,[.int .i64 0,.int .i64 0,.int .i64 0,.nil,.nil]⟩:=rfl
@[simp] theorem IJ:tab 57=some ⟨.int .u16,1,2,[.int .u16 0]⟩:=rfl
@[simp] theorem II:tab 58=some ⟨.struct [(0,3),(1,3)],2,16,[.int .i64 0,.int .i64 0]⟩:=rfl
@[simp] theorem vH:tab 59=some ⟨.struct [(0,3),(1,3)],2,16,[.int .i64 0,.int .i64 0]⟩:=rfl
@[simp] theorem IH:tab 63=some ⟨.struct [(0,3),(1,3),(2,3),(3,3)],4,32,[.int .i64 0,.int .i64 0,.int .i64 0,.int .i64 0]⟩:=rfl
@[simp] theorem vG:tab 64=some ⟨.struct [(0,3),(1,3),(2,3),(3,3)],4,32,[.int .i64 0,.int .i64 0,.int .i64 0,.int .i64 0]⟩:=rfl
@[simp] theorem IG:tab 65=some ⟨.slice 72,1,24,[.nil]⟩:=rfl
@[simp] theorem IF:tab 68=some ⟨.slice 315,1,24,[.nil]⟩:=rfl
@[simp] theorem IE:tab 69=some ⟨.struct [(0,3),(1,3),(2,3),(3,3),(4,3),(5,47),(21,68)],22,256,[.int .i64 0,.int .i64 0,.int .i64 0,.int .i64 0,.int .i64 0,.nil,.int .i64 0,.int .i64 0,.int .i64 0,.int .i64 0,.int .i64 0,.int .i64 0,.int .i64 0,.int .i64 0,.int .i64 0,.int .i64 0,.int .i64 0,.int .i64 0,.nil,.nil,.nil,.nil]⟩:=rfl
@[simp] theorem ID:tab 70=some ⟨.struct [(0,3),(1,3),(2,3),(3,3),(4,3),(5,47),(21,68)],22,256,[.int .i64 0,.int .i64 0,.int .i64 0,.int .i64 0,.int .i64 0,.nil,.int .i64 0,.int .i64 0,.int .i64 0,.int .i64 0,.int .i64 0,.int .i64 0,.int .i64 0,.int .i64 0,.int .i64 0,.int .i64 0,.int .i64 0,.int .i64 0,.nil,.nil,.nil,.nil]⟩:=rfl
@[simp] theorem IC:tab 71=some ⟨.struct [(0,3),(1,3),(2,3)],3,24,[.int .i64 0,.int .i64 0,.int .i64 0]⟩:=rfl
@[simp] theorem IB:tab 72=some ⟨.struct [(0,3),(1,3),(2,3)],3,24,[.int .i64 0,.int .i64 0,.int .i64 0]⟩:=rfl
@[simp] theorem IA:tab 74=some ⟨.struct [(0,9),(1,9),(2,3)],3,40,[.str [],.str [],.int .i64 0]⟩:=rfl
@[simp] theorem Iz:tab 75=some ⟨.struct [(0,9),(1,9),(2,3)],3,40,[.str [],.str [],.int .i64 0]⟩:=rfl
@[simp] theorem Iy:tab 76=some ⟨.slice 104,1,24,[.nil]⟩:=rfl
@[simp] theorem Ix:tab 79=some ⟨.ptr 81,1,8,[.nilp]⟩:=rfl
@[simp] theorem Iw:tab 80=some ⟨.struct [(0,76),(1,3),(2,3),(3,41),(5,42),(6,3)],7,104,[.nil,.int .i64 0,.int .i64 0,.nil,.nil,.int .i64 0,.int .i64 0]⟩:=rfl
@[simp] theorem Iv:tab 81=some ⟨.struct [(0,76),(1,3),(2,3),(3,41),(5,42),(6,3)],7,104,[.nil,.int .i64 0,.int .i64 0,.nil,.nil,.int .i64 0,.int .i64 0]⟩:=rfl
@[simp] theorem Iu:tab 90=some ⟨.cpx .f64,1,16,[.cpx .f64 0 0]⟩:=rfl
@[simp] theorem Is:tab 93=some ⟨.flt .f64,1,8,[.flt .f64 0]⟩:=rfl
@[simp] theorem Ir:tab 103=some ⟨.struct [(0,3),(1,9),(2,3)],3,32,[.int .i64 0,.str [],.int .i64 0]⟩:=rfl
@[simp] theorem Iq:tab 104=some ⟨.struct [(0,3),(1,9),(2,3)],3,32,[.int .i64 0,.str [],.int .i64 0]⟩:=rfl
@[simp] theorem Ip:tab 107=some ⟨.slice 9,1,24,[.nil]⟩:=rfl
@[simp] theorem Io:tab 115=some ⟨.struct [(0,9),(1,9),(2,3)],3,40,[.str [],.str [],.int .i64 0]⟩:=rfl
@[simp] theorem In:tab 116=some ⟨.struct [(0,9),(1,9),(2,3)],3,40,[.str [],.str [],.int .i64 0]⟩:=rfl
@[simp] theorem Im:tab 119=some ⟨.struct [(0,3),(1,3),(2,3)],3,24,[.int .i64 0,.int .i64 0,.int .i64 0]⟩:=rfl
@[simp] theorem sA:tab 120=some ⟨.struct [(0,3),(1,3),(2,3)],3,24,[.int .i64 0,.int .i64 0,.int .i64 0]⟩:=rfl
@[simp] theorem Il:tab 135=some ⟨.struct [(0,9),(1,9),(2,3),(3,3),(4,3),(5,3)],6,64,[.str [],.str [],.int .i64 0,.int .i64 0,.int .i64 0,.int .i64 0]⟩:=rfl
@[simp] theorem Ik:tab 136=some ⟨.struct [(0,9),(1,9),(2,3),(3,3),(4,3),(5,3)],6,64,[.str [],.str [],.int .i64 0,.int .i64 0,.int .i64 0,.int .i64 0]⟩:=rfl
@[simp] theorem Ij:tab 140=some ⟨.slice 143,1,24,[.nil]⟩:=rfl
@[simp] theorem Ii:tab 142=some ⟨.struct [(0,9),(1,3),(2,3)],3,32,[.str [],.int .i64 0,.int .i64 0]⟩:=rfl
@[simp] theorem Ih:tab 143=some ⟨.struct [(0,9),(1,3),(2,3)],3,32,[.str [],.int .i64 0,.int .i64 0]⟩:=rfl
@[simp] theorem Ig:tab 164=some ⟨.slice 169,1,24,[.nil]⟩:=rfl
@[simp] theorem If:tab 168=some ⟨.struct [(0,9),(1,3)],2,24,[.str [],.int .i64 0]⟩:=rfl
@[simp] theorem Ie:tab 169=some ⟨.struct [(0,9),(1,3)],2,24,[.str [],.int .i64 0]⟩:=rfl
@[simp] theorem Id:tab 170=some ⟨.slice 173,1,24,[.nil]⟩:=rfl
@[simp] theorem Ic:tab 172=some ⟨.struct [(0,3),(1,3),(2,4)],3,24,[.int .i64 0,.int .i64 0,.bool false]⟩:=rfl
@[simp] theorem Ib:tab 173=some ⟨.struct [(0,3),(1,3),(2,4)],3,24,[.int .i64 0,.int .i64 0,.bool false]⟩:=rfl
@[simp] theorem Ia:tab 180=some ⟨.int .u64,1,8,[.int .u64 0]⟩:=rfl
@[simp] theorem H_:tab 189=some ⟨.iface,1,16,[.nili]⟩:=rfl
@[simp] theorem H9:tab 190=some ⟨.iface,1,16,[.nili]⟩:=rfl
@[simp] theorem H8:tab 198=some ⟨.map 9 3,1,8,[.nilm]⟩:=rfl
@[simp] theorem H7:tab 201=some ⟨.slice 4,1,24,[.nil]⟩:=rfl
@[simp] theorem H6:tab 215=some ⟨.int .i64,1,8,[.int .i64 0]⟩:=rfl
@[simp] theorem H5:tab 223=some ⟨.int .u32,1,4,[.int .u32 0]⟩:=rfl
@[simp] theorem H4:tab 232=some ⟨.ptr 235,1,8,[.nilp]⟩:=rfl
@[simp] theorem H3:tab 233=some ⟨.slice 5,1,24,[.nil]⟩:=rfl
@[simp] theorem H2:tab 234=some ⟨.struct [(0,232),(1,233)],2,32,[.nilp,.nil]⟩:=rfl
@[simp] theorem H1:tab 235=some ⟨.struct [(0,232),(1,233)],2,32,[.nilp,.nil]⟩:=rfl
@[simp] theorem H0:tab 251=some ⟨.int .u64,1,8,[.int .u64 0]⟩:=rfl
@[simp] theorem HZ:tab 255=some ⟨.ptr 3,1,8,[.nilp]⟩:=rfl
@[simp] theorem HY:tab 257=some ⟨.int .i64,1,8,[.int .i64 0]⟩:=rfl
@[simp] theorem HX:tab 260=some ⟨.ptr 271,1,8,[.nilp]⟩:=rfl
@[simp] theorem HW:tab 263=some ⟨.ptr 5,1,8,[.nilp]⟩:=rfl
@[simp] theorem HV:tab 265=some ⟨.ptr 251,1,8,[.nilp]⟩:=rfl
@[simp] theorem HU:tab 270=some ⟨.struct [(0,9),(1,9),(2,190)],3,48,[.str [],.str [],.nili]⟩:=rfl
@[simp] theorem HT:tab 271=some ⟨.struct [(0,9),(1,9),(2,190)],3,48,[.str [],.str [],.nili]⟩:=rfl
@[simp] theorem HS:tab 276=some ⟨.array 256 5,256,256,List.replicate 256 (.int .u8 0)⟩:=rfl
@[simp] theorem HR:tab 277=some ⟨.struct [(0,5),(1,5)],2,2,[.int .u8 0,.int .u8 0]⟩:=rfl
@[simp] theorem HQ:tab 278=some ⟨.struct [(0,5),(1,5)],2,2,[.int .u8 0,.int .u8 0]⟩:=rfl
@[simp] theorem HP:tab 279=some ⟨.array 16 278,32,32,[.int .u8 0,.int .u8 0,.int .u8 0,.int .u8 0,.int .u8 0,.int .u8 0,.int .u8 0,.int .u8 0,.int .u8 0,.int .u8 0,.int .u8 0,.int .u8 0,.int .u8 0,.int .u8 0,.int .u8 0,.int .u8 0,.int .u8 0,.int .u8 0,.int .u8 0,.int .u8 0,.int .u8 0,.int .u8 0,.int .u8 0,.int .u8 0,.int .u8 0,.int .u8 0,.int .u8 0,.int .u8 0,.int .u8 0,.int .u8 0,.int .u8 0,.int .u8 0]⟩:=rfl
@[simp] theorem HO:tab 281=some ⟨.struct [(0,9),(1,3),(2,3)],3,32,[.str [],.int .i64 0,.int .i64 0]⟩:=rfl
@[simp] theorem HN:tab 282=some ⟨.struct [(0,9),(1,3),(2,3)],3,32,[.str [],.int .i64 0,.int .i64 0]⟩:=rfl
@[simp] theorem HM:tab 283=some ⟨.slice 282,1,24,[.nil]⟩:=rfl
@[simp] theorem HL:tab 287=some ⟨.ptr 289,1,8,[.nilp]⟩:=rfl
@[simp] theorem HK:tab 288=some ⟨.struct [(0,9)],1,16,[.str []]⟩:=rfl
@[simp] theorem HJ:tab 289=some ⟨.struct [(0,9)],1,16,[.str []]⟩:=rfl
@[simp] theorem HI:tab 292=some ⟨.array 24 5,24,24,[.int .u8 0,.int .u8 0,.int .u8 0,.int .u8 0,.int .u8 0,.int .u8 0,.int .u8 0,.int .u8 0,.int .u8 0,.int .u8 0,.int .u8 0,.int .u8 0,.int .u8 0,.int .u8 0,.int .u8 0,.int .u8 0,.int .u8 0,.int .u8 0,.int .u8 0,.int .u8 0,.int .u8 0,.int .u8 0,.int .u8 0,.int .u8 0]⟩:=rfl
@[simp] theorem HH:tab 298=some ⟨.array 20 53,20,160,[.int .u64 0,.int .u64 0,.int .u64 0,.int .u64 0,.int .u64 0,.int .u64 0,.int .u64 0,.int .u64 0,.int .u64 0,.int .u64 0,.int .u64 0,.int .u64 0,.int .u64 0,.int .u64 0,.int .u64 0,.int .u64 0,.int .u64 0,.int .u64 0,.int .u64 0,.int .u64 0]⟩:=rfl
@[simp] theorem HG:tab 299=some ⟨.array 65 5,65,65,List.replicate 65 (.int .u8 0)⟩:=rfl
@[simp] theorem HF:tab 300=some ⟨.array 32 5,32,32,[.int .u8 0,.int .u8 0,.int .u8 0,.int .u8 0,.int .u8 0,.int .u8 0,.int .u8 0,.int .u8 0,.int .u8 0,.int .u8 0,.int .u8 0,.int .u8 0,.int .u8 0,.int .u8 0,.int .u8 0,.int .u8 0,.int .u8 0,.int .u8 0,.int .u8 0,.int .u8 0,.int .u8 0,.int .u8 0,.int .u8 0,.int .u8 0,.int .u8 0,.int .u8 0,.int .u8 0,.int .u8 0,.int .u8 0,.int .u8 0,.int .u8 0,.int .u8 0]⟩:=rfl
@[simp] theorem HE:tab 301=some ⟨.array 64 5,64,64,[.int .u8 0,.int .u8 0,.int .u8 0,.int .u8 0,.int .u8 0,.int .u8 0,.int .u8 0,.int .u8 0,.int .u8 0,.int .u8 0,.int .u8 0,.int .u8 0,.int .u8 0,.int .u8 0,.int .u8 0,.int .u8 0,.int .u8 0,.int .u8 0,.int .u8 0,.int .u8 0,.int .u8 0,.int .u8 0,.int .u8 0,.int .u8 0,.int .u8 0,.int .u8 0,.int .u8 0,.int .u8 0,.int .u8 0,.int .u8 0,.int .u8 0,.int .u8 0,.int .u8 0,.int .u8 0,.int .u8 0,.int .u8 0,.int .u8 0,.int .u8 0,.int .u8 0,.int .u8 0,.int .u8 0,.int .u8 0,.int .u8 0,.int .u8 0,.int .u8 0,.int .u8 0,.int .u8 0,.int .u8 0,.int .u8 0,.int .u8 0,.int .u8 0,.int .u8 0,.int .u8 0,.int .u8 0,.int .u8 0,.int .u8 0,.int .u8 0,.int .u8 0,.int .u8 0,.int .u8 0,.int .u8 0,.int .u8 0,.int .u8 0,.int .u8 0]⟩:=rfl
@[simp] theorem HD:tab 302=some ⟨.struct [(0,17),(1,17),(2,17),(3,9)],4,40,[.nilp,.nilp,.nilp,.str []]⟩:=rfl
@[simp] theorem HC:tab 303=some ⟨.struct [(0,17),(1,17),(2,17),(3,9)],4,40,[.nilp,.nilp,.nilp,.str []]⟩:=rfl
@[simp] theorem HB:tab 304=some ⟨.array 0 16,0,0,[]⟩:=rfl
@[simp] theorem HA:tab 305=some ⟨.struct [(0,304)],0,0,[]⟩:=rfl
@[simp] theorem Hz:tab 306=some ⟨.struct [(0,304)],0,0,[]⟩:=rfl
@[simp] theorem Hy:tab 307=some ⟨.int .u8,1,1,[.int .u8 0]⟩:=rfl
@[simp] theorem Hx:tab 308=some ⟨.int .u8,1,1,[.int .u8 0]⟩:=rfl
@[simp] theorem Hw:tab 310=some ⟨.int .i32,1,4,[.int .i32 0]⟩:=rfl
@[simp] theorem Hv:tab 311=some ⟨.int .i32,1,4,[.int .i32 0]⟩:=rfl
@[simp] theorem Hu:tab 314=some ⟨.struct [(0,3),(1,29)],4,32,[.int .i64 0,.int .i64 0,.int .i64 0,.int .i64 0]⟩:=rfl
@[simp] theorem Ht:tab 315=some ⟨.struct [(0,3),(1,29)],4,32,[.int .i64 0,.int .i64 0,.int .i64 0,.int .i64 0]⟩:=rfl
theorem xY:af Tryz.prog 9:=⟨⟨_,Tryz.func9,by kernel_rfl,by kernel_rfl⟩⟩
theorem dw:af Tryz.prog 10:=⟨⟨_,Tryz.func10,by kernel_rfl,by kernel_rfl⟩⟩
theorem iz:af Tryz.prog 11:=⟨⟨_,Tryz.func11,by kernel_rfl,by kernel_rfl⟩⟩
theorem dM:af Tryz.prog 12:=⟨⟨_,Tryz.func12,by kernel_rfl,by kernel_rfl⟩⟩
theorem eo:af Tryz.prog 13:=⟨⟨_,Tryz.func13,by kernel_rfl,by kernel_rfl⟩⟩
theorem tU:af Tryz.prog 14:=⟨⟨_,Tryz.func14,by kernel_rfl,by kernel_rfl⟩⟩
theorem Kb:af Tryz.prog 15:=⟨⟨_,Tryz.func15,by kernel_rfl,by kernel_rfl⟩⟩
theorem KF:af Tryz.prog 16:=⟨⟨_,Tryz.func16,by kernel_rfl,by kernel_rfl⟩⟩
theorem tT:af Tryz.prog 17:=⟨⟨_,Tryz.func17,by kernel_rfl,by kernel_rfl⟩⟩
theorem CF:af Tryz.prog 18:=⟨⟨_,Tryz.func18,by kernel_rfl,by kernel_rfl⟩⟩
theorem fh:af Tryz.prog 19:=⟨⟨_,Tryz.func19,by kernel_rfl,by kernel_rfl⟩⟩
theorem CE:af Tryz.prog 20:=⟨⟨_,Tryz.func20,by kernel_rfl,by kernel_rfl⟩⟩
theorem lB:af Tryz.prog 21:=⟨⟨_,Tryz.func21,by kernel_rfl,by kernel_rfl⟩⟩
theorem CD:af Tryz.prog 22:=⟨⟨_,Tryz.func22,by kernel_rfl,by kernel_rfl⟩⟩
theorem tS:af Tryz.prog 23:=⟨⟨_,Tryz.func23,by kernel_rfl,by kernel_rfl⟩⟩
theorem CC:af Tryz.prog 24:=⟨⟨_,Tryz.func24,by kernel_rfl,by kernel_rfl⟩⟩
theorem KZ:af Tryz.prog 25:=⟨⟨_,Tryz.func25,by kernel_rfl,by kernel_rfl⟩⟩
theorem KY:af Tryz.prog 26:=⟨⟨_,Tryz.func26,by kernel_rfl,by kernel_rfl⟩⟩
theorem Kq:af Tryz.prog 27:=⟨⟨_,Tryz.func27,by kernel_rfl,by kernel_rfl⟩⟩
theorem KE:af Tryz.prog 28:=⟨⟨_,Tryz.func28,by kernel_rfl,by kernel_rfl⟩⟩
theorem KX:af Tryz.prog 29:=⟨⟨_,Tryz.func29,by kernel_rfl,by kernel_rfl⟩⟩
theorem lA:af Tryz.prog 30:=⟨⟨_,Tryz.func30,by kernel_rfl,by kernel_rfl⟩⟩
theorem CB:af Tryz.prog 31:=⟨⟨_,Tryz.func31,by kernel_rfl,by kernel_rfl⟩⟩
theorem CA:af Tryz.prog 32:=⟨⟨_,Tryz.func32,by kernel_rfl,by kernel_rfl⟩⟩
theorem bX:af Tryz.prog 33:=⟨⟨_,Tryz.func33,by kernel_rfl,by kernel_rfl⟩⟩
theorem dv:af Tryz.prog 34:=⟨⟨_,Tryz.func34,by kernel_rfl,by kernel_rfl⟩⟩
theorem fg:af Tryz.prog 35:=⟨⟨_,Tryz.func35,by kernel_rfl,by kernel_rfl⟩⟩
theorem ff:af Tryz.prog 36:=⟨⟨_,Tryz.func36,by kernel_rfl,by kernel_rfl⟩⟩
theorem bk:af Tryz.prog 37:=⟨⟨_,Tryz.func37,by kernel_rfl,by kernel_rfl⟩⟩
theorem ly:af Tryz.prog 38:=⟨⟨_,Tryz.func38,by kernel_rfl,by kernel_rfl⟩⟩
theorem fe:af Tryz.prog 39:=⟨⟨_,Tryz.func39,by kernel_rfl,by kernel_rfl⟩⟩
theorem f8:af Tryz.prog 40:=⟨⟨_,Tryz.func40,by kernel_rfl,by kernel_rfl⟩⟩
theorem tR:af Tryz.prog 41:=⟨⟨_,Tryz.func41,by kernel_rfl,by kernel_rfl⟩⟩
theorem Cz:af Tryz.prog 42:=⟨⟨_,Tryz.func42,by kernel_rfl,by kernel_rfl⟩⟩
theorem Cy:af Tryz.prog 43:=⟨⟨_,Tryz.func43,by kernel_rfl,by kernel_rfl⟩⟩
theorem cr:af Tryz.prog 44:=⟨⟨_,Tryz.func44,by kernel_rfl,by kernel_rfl⟩⟩
theorem tQ:af Tryz.prog 45:=⟨⟨_,Tryz.func45,by kernel_rfl,by kernel_rfl⟩⟩
theorem iy:af Tryz.prog 46:=⟨⟨_,Tryz.func46,by kernel_rfl,by kernel_rfl⟩⟩
theorem pm:af Tryz.prog 47:=⟨⟨_,Tryz.func47,by kernel_rfl,by kernel_rfl⟩⟩
theorem tP:af Tryz.prog 48:=⟨⟨_,Tryz.func48,by kernel_rfl,by kernel_rfl⟩⟩
theorem Cx:af Tryz.prog 49:=⟨⟨_,Tryz.func49,by kernel_rfl,by kernel_rfl⟩⟩
theorem Cw:af Tryz.prog 50:=⟨⟨_,Tryz.func50,by kernel_rfl,by kernel_rfl⟩⟩
theorem tO:af Tryz.prog 51:=⟨⟨_,Tryz.func51,by kernel_rfl,by kernel_rfl⟩⟩
theorem Cv:af Tryz.prog 52:=⟨⟨_,Tryz.func52,by kernel_rfl,by kernel_rfl⟩⟩
theorem a_:af Tryz.prog 53:=⟨⟨_,Tryz.func53,by kernel_rfl,by kernel_rfl⟩⟩
theorem J4:af Tryz.prog 54:=⟨⟨_,Tryz.func54,by kernel_rfl,by kernel_rfl⟩⟩
theorem lw:af Tryz.prog 55:=⟨⟨_,Tryz.func55,by kernel_rfl,by kernel_rfl⟩⟩
theorem Cu:af Tryz.prog 56:=⟨⟨_,Tryz.func56,by kernel_rfl,by kernel_rfl⟩⟩
theorem jJ:af Tryz.prog 57:=⟨⟨_,Tryz.func57,by kernel_rfl,by kernel_rfl⟩⟩
theorem Ct:af Tryz.prog 58:=⟨⟨_,Tryz.func58,by kernel_rfl,by kernel_rfl⟩⟩
theorem Cr:af Tryz.prog 59:=⟨⟨_,Tryz.func59,by kernel_rfl,by kernel_rfl⟩⟩
theorem Cq:af Tryz.prog 60:=⟨⟨_,Tryz.func60,by kernel_rfl,by kernel_rfl⟩⟩
theorem Cp:af Tryz.prog 61:=⟨⟨_,Tryz.func61,by kernel_rfl,by kernel_rfl⟩⟩
theorem dL:af Tryz.prog 62:=⟨⟨_,Tryz.func62,by kernel_rfl,by kernel_rfl⟩⟩
theorem pj:af Tryz.prog 63:=⟨⟨_,Tryz.func63,by kernel_rfl,by kernel_rfl⟩⟩
theorem Co:af Tryz.prog 64:=⟨⟨_,Tryz.func64,by kernel_rfl,by kernel_rfl⟩⟩
theorem tN:af Tryz.prog 65:=⟨⟨_,Tryz.func65,by kernel_rfl,by kernel_rfl⟩⟩
theorem Cn:af Tryz.prog 66:=⟨⟨_,Tryz.func66,by kernel_rfl,by kernel_rfl⟩⟩
theorem tM:af Tryz.prog 67:=⟨⟨_,Tryz.func67,by kernel_rfl,by kernel_rfl⟩⟩
theorem Cm:af Tryz.prog 68:=⟨⟨_,Tryz.func68,by kernel_rfl,by kernel_rfl⟩⟩
theorem lu:af Tryz.prog 69:=⟨⟨_,Tryz.func69,by kernel_rfl,by kernel_rfl⟩⟩
theorem Cl:af Tryz.prog 70:=⟨⟨_,Tryz.func70,by kernel_rfl,by kernel_rfl⟩⟩
theorem Ck:af Tryz.prog 71:=⟨⟨_,Tryz.func71,by kernel_rfl,by kernel_rfl⟩⟩
theorem pi:af Tryz.prog 72:=⟨⟨_,Tryz.func72,by kernel_rfl,by kernel_rfl⟩⟩
theorem tL:af Tryz.prog 73:=⟨⟨_,Tryz.func73,by kernel_rfl,by kernel_rfl⟩⟩
theorem Cj:af Tryz.prog 74:=⟨⟨_,Tryz.func74,by kernel_rfl,by kernel_rfl⟩⟩
theorem Ci:af Tryz.prog 75:=⟨⟨_,Tryz.func75,by kernel_rfl,by kernel_rfl⟩⟩
theorem Ch:af Tryz.prog 76:=⟨⟨_,Tryz.func76,by kernel_rfl,by kernel_rfl⟩⟩
theorem Cg:af Tryz.prog 77:=⟨⟨_,Tryz.func77,by kernel_rfl,by kernel_rfl⟩⟩
theorem Cf:af Tryz.prog 78:=⟨⟨_,Tryz.func78,by kernel_rfl,by kernel_rfl⟩⟩
theorem Cd:af Tryz.prog 79:=⟨⟨_,Tryz.func79,by kernel_rfl,by kernel_rfl⟩⟩
theorem lq:af Tryz.prog 80:=⟨⟨_,Tryz.func80,by kernel_rfl,by kernel_rfl⟩⟩
theorem Cc:af Tryz.prog 81:=⟨⟨_,Tryz.func81,by kernel_rfl,by kernel_rfl⟩⟩
theorem Cb:af Tryz.prog 82:=⟨⟨_,Tryz.func82,by kernel_rfl,by kernel_rfl⟩⟩
theorem lp:af Tryz.prog 83:=⟨⟨_,Tryz.func83,by kernel_rfl,by kernel_rfl⟩⟩
theorem tK:af Tryz.prog 84:=⟨⟨_,Tryz.func84,by kernel_rfl,by kernel_rfl⟩⟩
theorem iw:af Tryz.prog 85:=⟨⟨_,Tryz.func85,by kernel_rfl,by kernel_rfl⟩⟩
theorem tJ:af Tryz.prog 86:=⟨⟨_,Tryz.func86,by kernel_rfl,by kernel_rfl⟩⟩
theorem Ca:af Tryz.prog 87:=⟨⟨_,Tryz.func87,by kernel_rfl,by kernel_rfl⟩⟩
theorem B_:af Tryz.prog 88:=⟨⟨_,Tryz.func88,by kernel_rfl,by kernel_rfl⟩⟩
theorem tI:af Tryz.prog 89:=⟨⟨_,Tryz.func89,by kernel_rfl,by kernel_rfl⟩⟩
theorem tH:af Tryz.prog 90:=⟨⟨_,Tryz.func90,by kernel_rfl,by kernel_rfl⟩⟩
theorem ln:af Tryz.prog 91:=⟨⟨_,Tryz.func91,by kernel_rfl,by kernel_rfl⟩⟩
theorem tG:af Tryz.prog 92:=⟨⟨_,Tryz.func92,by kernel_rfl,by kernel_rfl⟩⟩
theorem B9:af Tryz.prog 93:=⟨⟨_,Tryz.func93,by kernel_rfl,by kernel_rfl⟩⟩
theorem B8:af Tryz.prog 94:=⟨⟨_,Tryz.func94,by kernel_rfl,by kernel_rfl⟩⟩
theorem B7:af Tryz.prog 95:=⟨⟨_,Tryz.func95,by kernel_rfl,by kernel_rfl⟩⟩
theorem ph:af Tryz.prog 96:=⟨⟨_,Tryz.func96,by kernel_rfl,by kernel_rfl⟩⟩
theorem B6:af Tryz.prog 97:=⟨⟨_,Tryz.func97,by kernel_rfl,by kernel_rfl⟩⟩
theorem tF:af Tryz.prog 98:=⟨⟨_,Tryz.func98,by kernel_rfl,by kernel_rfl⟩⟩
theorem B5:af Tryz.prog 99:=⟨⟨_,Tryz.func99,by kernel_rfl,by kernel_rfl⟩⟩
theorem yC:af Tryz.prog 100:=⟨⟨_,Tryz.func100,by kernel_rfl,by kernel_rfl⟩⟩
theorem mL:af Tryz.prog 101:=⟨⟨_,Tryz.func101,by kernel_rfl,by kernel_rfl⟩⟩
theorem mK:af Tryz.prog 102:=⟨⟨_,Tryz.func102,by kernel_rfl,by kernel_rfl⟩⟩
theorem dY:af Tryz.prog 103:=⟨⟨_,Tryz.func103,by kernel_rfl,by kernel_rfl⟩⟩
theorem rf:af Tryz.prog 104:=⟨⟨_,Tryz.func104,by kernel_rfl,by kernel_rfl⟩⟩
theorem rc:af Tryz.prog 105:=⟨⟨_,Tryz.func105,by kernel_rfl,by kernel_rfl⟩⟩
theorem yB:af Tryz.prog 106:=⟨⟨_,Tryz.func106,by kernel_rfl,by kernel_rfl⟩⟩
theorem yA:af Tryz.prog 107:=⟨⟨_,Tryz.func107,by kernel_rfl,by kernel_rfl⟩⟩
theorem hM:af Tryz.prog 108:=⟨⟨_,Tryz.func108,by kernel_rfl,by kernel_rfl⟩⟩
theorem jO:af Tryz.prog 109:=⟨⟨_,Tryz.func109,by kernel_rfl,by kernel_rfl⟩⟩
theorem jN:af Tryz.prog 110:=⟨⟨_,Tryz.func110,by kernel_rfl,by kernel_rfl⟩⟩
theorem jM:af Tryz.prog 111:=⟨⟨_,Tryz.func111,by kernel_rfl,by kernel_rfl⟩⟩
theorem mJ:af Tryz.prog 114:=⟨⟨_,Tryz.func114,by kernel_rfl,by kernel_rfl⟩⟩
theorem mI:af Tryz.prog 115:=⟨⟨_,Tryz.func115,by kernel_rfl,by kernel_rfl⟩⟩
theorem q_:af Tryz.prog 116:=⟨⟨_,Tryz.func116,by kernel_rfl,by kernel_rfl⟩⟩
theorem yz:af Tryz.prog 117:=⟨⟨_,Tryz.func117,by kernel_rfl,by kernel_rfl⟩⟩
theorem yy:af Tryz.prog 118:=⟨⟨_,Tryz.func118,by kernel_rfl,by kernel_rfl⟩⟩
theorem yw:af Tryz.prog 119:=⟨⟨_,Tryz.func119,by kernel_rfl,by kernel_rfl⟩⟩
theorem yv:af Tryz.prog 120:=⟨⟨_,Tryz.func120,by kernel_rfl,by kernel_rfl⟩⟩
theorem q9:af Tryz.prog 121:=⟨⟨_,Tryz.func121,by kernel_rfl,by kernel_rfl⟩⟩
theorem yu:af Tryz.prog 122:=⟨⟨_,Tryz.func122,by kernel_rfl,by kernel_rfl⟩⟩
theorem q8:af Tryz.prog 123:=⟨⟨_,Tryz.func123,by kernel_rfl,by kernel_rfl⟩⟩
theorem yt:af Tryz.prog 124:=⟨⟨_,Tryz.func124,by kernel_rfl,by kernel_rfl⟩⟩
theorem yr:af Tryz.prog 125:=⟨⟨_,Tryz.func125,by kernel_rfl,by kernel_rfl⟩⟩
theorem mH:af Tryz.prog 126:=⟨⟨_,Tryz.func126,by kernel_rfl,by kernel_rfl⟩⟩
theorem yq:af Tryz.prog 127:=⟨⟨_,Tryz.func127,by kernel_rfl,by kernel_rfl⟩⟩
theorem yp:af Tryz.prog 128:=⟨⟨_,Tryz.func128,by kernel_rfl,by kernel_rfl⟩⟩
theorem yo:af Tryz.prog 129:=⟨⟨_,Tryz.func129,by kernel_rfl,by kernel_rfl⟩⟩
theorem yn:af Tryz.prog 135:=⟨⟨_,Tryz.func135,by kernel_rfl,by kernel_rfl⟩⟩
theorem q7:af Tryz.prog 139:=⟨⟨_,Tryz.func139,by kernel_rfl,by kernel_rfl⟩⟩
theorem ym:af Tryz.prog 140:=⟨⟨_,Tryz.func140,by kernel_rfl,by kernel_rfl⟩⟩
theorem qZ:af Tryz.prog 141:=⟨⟨_,Tryz.func141,by kernel_rfl,by kernel_rfl⟩⟩
theorem hH:af Tryz.prog 142:=⟨⟨_,Tryz.func142,by kernel_rfl,by kernel_rfl⟩⟩
theorem qY:af Tryz.prog 143:=⟨⟨_,Tryz.func143,by kernel_rfl,by kernel_rfl⟩⟩
theorem qX:af Tryz.prog 144:=⟨⟨_,Tryz.func144,by kernel_rfl,by kernel_rfl⟩⟩
theorem jL:af Tryz.prog 150:=⟨⟨_,Tryz.func150,by kernel_rfl,by kernel_rfl⟩⟩
theorem jK:af Tryz.prog 152:=⟨⟨_,Tryz.func152,by kernel_rfl,by kernel_rfl⟩⟩
theorem g_:af Tryz.prog 153:=⟨⟨_,Tryz.func153,by kernel_rfl,by kernel_rfl⟩⟩
theorem yl:af Tryz.prog 156:=⟨⟨_,Tryz.func156,by kernel_rfl,by kernel_rfl⟩⟩
theorem yk:af Tryz.prog 157:=⟨⟨_,Tryz.func157,by kernel_rfl,by kernel_rfl⟩⟩
theorem qW:af Tryz.prog 158:=⟨⟨_,Tryz.func158,by kernel_rfl,by kernel_rfl⟩⟩
theorem yj:af Tryz.prog 159:=⟨⟨_,Tryz.func159,by kernel_rfl,by kernel_rfl⟩⟩
theorem yi:af Tryz.prog 160:=⟨⟨_,Tryz.func160,by kernel_rfl,by kernel_rfl⟩⟩
theorem yh:af Tryz.prog 161:=⟨⟨_,Tryz.func161,by kernel_rfl,by kernel_rfl⟩⟩
theorem yg:af Tryz.prog 162:=⟨⟨_,Tryz.func162,by kernel_rfl,by kernel_rfl⟩⟩
theorem yf:af Tryz.prog 163:=⟨⟨_,Tryz.func163,by kernel_rfl,by kernel_rfl⟩⟩
theorem qV:af Tryz.prog 164:=⟨⟨_,Tryz.func164,by kernel_rfl,by kernel_rfl⟩⟩
theorem ye:af Tryz.prog 165:=⟨⟨_,Tryz.func165,by kernel_rfl,by kernel_rfl⟩⟩
theorem yd:af Tryz.prog 166:=⟨⟨_,Tryz.func166,by kernel_rfl,by kernel_rfl⟩⟩
theorem yc:af Tryz.prog 167:=⟨⟨_,Tryz.func167,by kernel_rfl,by kernel_rfl⟩⟩
theorem yb:af Tryz.prog 168:=⟨⟨_,Tryz.func168,by kernel_rfl,by kernel_rfl⟩⟩
theorem fP:af Tryz.prog 169:=⟨⟨_,Tryz.func169,by kernel_rfl,by kernel_rfl⟩⟩
theorem qU:af Tryz.prog 175:=⟨⟨_,Tryz.func175,by kernel_rfl,by kernel_rfl⟩⟩
theorem ya:af Tryz.prog 176:=⟨⟨_,Tryz.func176,by kernel_rfl,by kernel_rfl⟩⟩
theorem x_:af Tryz.prog 184:=⟨⟨_,Tryz.func184,by kernel_rfl,by kernel_rfl⟩⟩
theorem x9:af Tryz.prog 190:=⟨⟨_,Tryz.func190,by kernel_rfl,by kernel_rfl⟩⟩
theorem x8:af Tryz.prog 191:=⟨⟨_,Tryz.func191,by kernel_rfl,by kernel_rfl⟩⟩
theorem mG:af Tryz.prog 193:=⟨⟨_,Tryz.func193,by kernel_rfl,by kernel_rfl⟩⟩
theorem x7:af Tryz.prog 203:=⟨⟨_,Tryz.func203,by kernel_rfl,by kernel_rfl⟩⟩
theorem qT:af Tryz.prog 204:=⟨⟨_,Tryz.func204,by kernel_rfl,by kernel_rfl⟩⟩
theorem dX:af Tryz.prog 205:=⟨⟨_,Tryz.func205,by kernel_rfl,by kernel_rfl⟩⟩
theorem x6:af Tryz.prog 213:=⟨⟨_,Tryz.func213,by kernel_rfl,by kernel_rfl⟩⟩
theorem xZ:af Tryz.prog 218:=⟨⟨_,Tryz.func218,by kernel_rfl,by kernel_rfl⟩⟩
@[simp] theorem Jw (a b:Int):(a != b)=!decide (a=b):=by by_cases h:a=b<;>simp[h]
@[simp] theorem Jx (a b:Int):(a==b)=decide (a=b):=by by_cases h:a=b<;>simp[h]
attribute [simp] qB List.take_of_length_le fq cw mF f6 leR leA FV.le D.leL kV gu b_ fR Op.operands Call.operands kc dP jc xk sX xv eM mvN m8 iY df dH Ev.app tx rY la bp bF msk bG ed gq dV fj τ1 il xE Hm eb DZ σ0 wv jn vT AF AH u4 u0 aj aa G7 ren eL cC aF σ1 bI go bh ky evA evX evXs evOpt sW mc dr aY get jE tv tq tz tw uZ kP xH BQ BT lh BL BV xD bnd ldD BX ml BO uY Br Bs jA qt qq lkD wM mxI mnI TI.ag D.cs o8 mkV allD p9 mE kg bu spl BY mw fu szD oQ TI.zeroD evB dK ft oH fK aK aI D.flat D.flats qC mu jC gj fm hU kB pv iW
end Go.Proofs.YtlhmejigmokbhaaGreatDoor.Pay
