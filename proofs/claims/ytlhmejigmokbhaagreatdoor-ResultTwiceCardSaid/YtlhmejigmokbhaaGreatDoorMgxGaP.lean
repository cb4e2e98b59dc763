/- The texts GaP, one behind the other. No statement of the seed is proved here. -/
import Derived.Test.YtlhmejigmokbhaaGreatDoorMgxGaG
namespace Go.Proofs.YtlhmejigmokbhaaGreatDoor.Pay
open Go Go.RowKit
set_option linter.unusedVariables false
set_option linter.unusedSimpArgs false
set_option linter.unusedSectionVars false
def qw (p:Int):List Int->List Int
 |[]=>[p]
 |x::r=>if p<x then p::x::r else if p=x then x::r else x::qw p r
theorem mo (p:Int):∀ {l:List Int} {y:Int},y∈qw p l↔y=p\/y∈l
 |[],y=>by simp[qw]
 |x::r,y=>by
  unfold qw;split
  ·simp
  ·split
   ·rename_i h;subst h;simp
   ·rw[List.mem_cons,mo p,List.mem_cons];constructor
    ·rintro(h|h|h)<;>simp[h]
    ·rintro(h|h|h)<;>simp[h]
theorem tg (p:Int):∀ {l:List Int},l.Pairwise (· < ·)->(qw p l).Pairwise (· < ·)
 |[],_=>by simp[qw]
 |x::r,h=>by
  obtain⟨h1,h2⟩:=List.pairwise_cons.1 h;unfold qw;split
  ·rename_i hp;refine List.pairwise_cons.2 ⟨λy hy=>?_,h⟩
   rcases List.mem_cons.1 hy with rfl|hy
   ·exact hp
   ·have:=h1 y hy;omega
  ·split
   ·exact h
   ·rename_i h3 h4;refine List.pairwise_cons.2 ⟨λy hy=>?_,tg p h2⟩
    rcases(mo p).1 hy with rfl|hy
    ·omega
    ·exact h1 y hy
theorem A7 (P:Nat->Int) (n:Nat):∃ps,Prs P n ps:=by
 have key:∃ps:List Int,ps.Pairwise (· < ·)/\∀p,p∈ps↔∃i,i<n/\P i=p:=by
  induction n with
  |zero=>exact⟨[],by simp,λp=>by simp⟩
  |succ n ih=>
   obtain⟨ps,h1,h2⟩:=ih;refine⟨qw (P n) ps,tg _ h1,λp=>?_⟩
   rw[mo,h2];constructor
   ·rintro(rfl|⟨i,hi,rfl⟩)
    ·exact⟨n,by omega,rfl⟩
    ·exact⟨i,by omega,rfl⟩
   ·rintro⟨i,hi,rfl⟩;by_cases e:i=n
    ·exact .inl (by rw[e])
    ·exact .inr ⟨i,by omega,rfl⟩
 obtain⟨ps,h1,h2⟩:=key;exact⟨ps,λi j hi hj hij=>List.pairwise_iff_getElem.1 h1 i j hi hj hij,λi hi=>(h2 _).2 ⟨i,hi,rfl⟩,λp hp=>(h2 p).1 hp⟩
section
variable {A:Int} {P W:Nat->Int} {n:Nat}
theorem uB (g:eJ A P W n):aJ (el A P W n) n=A-at0 (A-aJ W n):=by
 obtain⟨ps,h⟩:=A7 P n;exact A9 g h
end
end Go.Proofs.YtlhmejigmokbhaaGreatDoor.Pay
