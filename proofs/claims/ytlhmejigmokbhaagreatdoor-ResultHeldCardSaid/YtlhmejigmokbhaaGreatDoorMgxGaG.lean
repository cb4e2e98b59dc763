/- The texts GaG, one behind the other. No statement of the seed is proved here. -/
import Derived.Test.YtlhmejigmokbhaaGreatDoorMgBP
import Derived.Test.YtlhmejigmokbhaaGreatDoorMgxSpY
namespace Go.Proofs.YtlhmejigmokbhaaGreatDoor.Pay
open Go Go.RowKit
set_option linter.unusedVariables false
set_option linter.unusedSimpArgs false
set_option linter.unusedSectionVars false
def Ord.ok (o:Ord):Prop:=aC o.cred/\aC o.pri/\aC o.claim/\aC o.bal
theorem BC {g:Nat} {ds:List D} (h:bU tab (g+2) 64 ds):∃o:Ord,o.ok/\ds=o.cs:=by
 unfold bU at h;simp only[vG,Fs] at h;obtain⟨_,_,rfl,h1,_,_,rfl,h2,_,_,rfl,h3,_,_,rfl,h4,rfl⟩:=h;obtain⟨x1,rfl,k1⟩:=ld h1 lP;obtain⟨x2,rfl,k2⟩:=ld h2 lP;obtain⟨x3,rfl,k3⟩:=ld h3 lP;obtain⟨x4,rfl,k4⟩:=ld h4 lP;exact⟨⟨x1,x2,x3,x4⟩,⟨k1,k2,k3,k4⟩,rfl⟩
theorem xq {g:Nat} {ds:List D} (h:bU tab (g+3) 33 ds):∃l:List Ord,(∀o∈l,o.ok)/\l.length<=maxLen/\ds=[dz l]:=by
 unfold bU at h;simp only[E6,vG] at h;obtain⟨xs,rfl,hl,hx⟩:=h;have key:∀ {xs:List D},(∀x∈xs,∃o:Ord,o.ok/\x=o.enc)->∃l:List Ord,xs=l.map Ord.enc/\∀o∈l,o.ok:=by
  intro xs;induction xs with
  |nil=>intro _;exact⟨[],rfl,by simp⟩
  |cons x xs ih=>
   intro h;obtain⟨o,h1,rfl⟩:=h x (by simp)
   obtain⟨l,rfl,h2⟩:=ih λy hy=>h y (by simp[hy])
   exact⟨o::l,rfl,by simpa using⟨h1,h2⟩⟩
 obtain⟨l,rfl,h2⟩:=key λx hx'=>by
  obtain⟨ys,h1,rfl⟩:=hx x hx';obtain⟨o,h3,rfl⟩:=BC h1;exact⟨o,h3,rfl⟩
 exact⟨l,h2,by simpa using hl,rfl⟩
end Go.Proofs.YtlhmejigmokbhaaGreatDoor.Pay
