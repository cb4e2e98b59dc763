/- The texts SpC, one behind the other. No statement of the seed is proved here. -/
import Derived.Test.YtlhmejigmokbhaaGreatDoorMgP
namespace Go.Proofs.YtlhmejigmokbhaaGreatDoor.Pay
open Go Go.RowKit
set_option linter.unusedVariables false
set_option linter.unusedSimpArgs false
section
variable {c:Int->Int->Int} {ok:Int->Prop}
theorem Cmp.lel (h:Cmp c ok) {x y z:Int} (hx:ok x) (hy:ok y) (hz:ok z) (h1:¬c y x<0) (h2:c y z<0):c x z<0:=by
 by_cases e:x=y
 ·subst e;exact h2
 ·exact h.tr x y z hx hy hz ((h.tot x y hx hy e).resolve_right h1) h2
theorem Cmp.ltl (h:Cmp c ok) {x y z:Int} (hx:ok x) (hy:ok y) (hz:ok z) (h1:c x y<0) (h2:¬c z y<0):c x z<0:=by
 by_cases e:y=z
 ·subst e;exact h1
 ·exact h.tr x y z hx hy hz h1 ((h.tot y z hy hz e).resolve_right h2)
theorem Cmp.irr (h:Cmp c ok) {x:Int} (hx:ok x):¬c x x<0:=λq=>h.asym x x hx hx q q
theorem bz.le (hc:Cmp c ok) {g:Nat->Int} {a b n:Nat} (hs:bz c g a b) (hok:eK ok g n) (hb:b<=n) {i j:Nat} (hi:a<=i) (hij:i<=j) (hj:j<b):¬c (g j) (g i)<0:=by
 by_cases e:i=j
 ·subst e;exact hc.irr (hok i (by omega))
 ·exact hs i j hi (by omega) hj
theorem bz.eq {g h:Nat->Int} {a b:Nat} (hs:bz c g a b) (e:∀i,a<=i->i<b->h i=g i):bz c h a b:=λi j h1 h2 h3=>by
 rw[e i h1 (by omega),e j (by omega) h3];exact hs i j h1 h2 h3
def shl (g:Nat->Int) (a k:Nat):Nat->Int:=λp=>if a<=p/\p<k then g (p+1) else if p=k then g a else g p
theorem wc (g:Nat->Int) (a:Nat):shl g a a=g:=by
 funext p
 unfold shl;rw[if_neg (by omega)]
 split
 ·rename_i h;rw[h]
 ·rfl
theorem wd (g:Nat->Int) {a k:Nat} (h:a<=k):sw (shl g a k) k (k+1)=shl g a (k+1):=by
 funext p
 rw[gA];unfold shl;by_cases e1:p=k+1
 ·subst e1;rw[if_pos rfl,if_neg (by omega),if_pos rfl,if_neg (by omega),if_pos rfl]
 ·rw[if_neg e1];by_cases e2:p=k
  ·subst e2;rw[if_pos rfl,if_neg (by omega),if_neg (by omega),if_pos (by omega)]
  ·rw[if_neg e2];by_cases e3:a<=p/\p<k
   ·rw[if_pos e3,if_pos (by omega)]
   ·rw[if_neg e3,if_neg e2,if_neg (by omega),if_neg e1]
theorem Ff (g:Nat->Int) {a k b:Nat} (h:a<=k) (hb:k<b):Mv a b g (shl g a k):=
 Mv.of (λp=>if a<=p/\p<k then p+1 else if p=k then a else p) (λp=>by
  unfold shl;split
  ·rfl
  ·split<;>rfl) (λp hp=>by rw[if_neg (by omega),if_neg (by omega)]) (λp p1 p2=>by split<;>(try split)<;>omega) (λp q p1 p2 q1 q2 e=>by
  split at e<;>split at e<;>(try split at e)<;>(try split at e)<;>omega)
theorem AN (hc:Cmp c ok) {g:Nat->Int} {n a i b:Nat} (hok:eK ok g n) (hbn:b<=n) (hi:a+1<=i) (hib:i<=b) (hs:bz c g (a+1) b) (h1:∀k,a+1<=k->k<i->c (g k) (g a)<0) (h2:∀k,i<=k->k<b->¬c (g k) (g a)<0):
 bz c (shl g a (i-1)) a b:=λp q p1 pq q2=>by
 unfold shl;by_cases e1:p<i-1
 ·rw[if_pos (c:=a<=p/\p<i-1) (by omega)]
  by_cases e2:q<i-1
  ·rw[if_pos (by omega)]
   exact hs (p+1) (q+1) (by omega) (by omega) (by omega)
  ·rw[if_neg (by omega)]
   by_cases e3:q=i-1
   ·rw[if_pos e3];exact hc.asym _ _ (hok _ (by omega)) (hok _ (by omega)) (h1 (p+1) (by omega) (by omega))
   ·rw[if_neg e3];exact hs (p+1) q (by omega) (by omega) q2
 ·rw[if_neg (c:=a<=p/\p<i-1) (by omega),if_neg (c:=a<=q/\q<i-1) (by omega),if_neg (c:=q=i-1) (by omega)]
  by_cases e3:p=i-1
  ·rw[if_pos e3];exact h2 q (by omega) q2
  ·rw[if_neg e3];exact hs p q (by omega) pq q2
def kS (g:Nat->Int) (k m:Nat):Nat->Int:=λp=>if p=k then g m else if k<p/\p<=m then g (p-1) else g p
theorem uo (g:Nat->Int) (m:Nat):kS g m m=g:=by
 funext p
 unfold kS;split
 ·rename_i h;rw[h]
 ·rw[if_neg (by omega)]
theorem uq (g:Nat->Int) {k q m:Nat} (hq:k-1=q) (h:0<k) (hk:k<=m):sw (kS g k m) k q=kS g q m:=by
 funext p
 rw[gA];unfold kS;by_cases e1:p=q
 ·rw[if_pos e1,if_pos e1,if_pos rfl]
 ·rw[if_neg e1,if_neg e1];by_cases e2:p=k
  ·subst e2;rw[if_pos rfl,if_neg (by omega),if_neg (by omega),if_pos (by omega),hq]
  ·rw[if_neg e2,if_neg e2];by_cases e3:k<p/\p<=m
   ·rw[if_pos e3,if_pos (by omega)]
   ·rw[if_neg e3,if_neg (by omega)]
theorem AK (g:Nat->Int) {a k m b:Nat} (h:a<=k) (hk:k<=m) (hb:m<b):Mv a b g (kS g k m):=
 Mv.of (λp=>if p=k then m else if k<p/\p<=m then p-1 else p) (λp=>by
  unfold kS;split
  ·rfl
  ·split<;>rfl) (λp hp=>by rw[if_neg (by omega),if_neg (by omega)]) (λp p1 p2=>by split<;>(try split)<;>omega) (λp q p1 p2 q1 q2 e=>by
  split at e<;>split at e<;>(try split at e)<;>(try split at e)<;>omega)
theorem v_ (hc:Cmp c ok) {g:Nat->Int} {n a i m:Nat} (hok:eK ok g n) (hbn:m<n) (hi:a<=i) (him:i<=m) (hs:bz c g a m) (h1:∀k,a<=k->k<i->¬c (g m) (g k)<0) (h2:∀k,i<=k->k<m->c (g m) (g k)<0):
 bz c (kS g i m) a (m+1):=λp q p1 pq q2=>by
 unfold kS;by_cases e1:q=i
 ·rw[if_pos e1,if_neg (by omega),if_neg (by omega)]
  exact h1 p p1 (by omega)
 ·rw[if_neg e1];by_cases e2:i<q/\q<=m
  ·rw[if_pos e2];by_cases e3:p=i
   ·rw[if_pos e3];exact hc.asym _ _ (hok _ (by omega)) (hok _ (by omega)) (h2 (q-1) (by omega) (by omega))
   ·rw[if_neg e3];by_cases e4:i<p/\p<=m
    ·rw[if_pos e4];exact hs (p-1) (q-1) (by omega) (by omega) (by omega)
    ·rw[if_neg e4];exact hs p (q-1) p1 (by omega) (by omega)
  ·rw[if_neg e2,if_neg (by omega),if_neg (by omega)]
   exact hs p q p1 pq (by omega)
structure Sy (c:Int->Int->Int) (g:Nat->Int) (p s0 r0 s r:Nat):Prop where
 lo:∀k,s0<=k->k<s->¬c (g (p-k)) (g k)<0
 hi:∀k,r<=k->k<r0->c (g (p-k)) (g k)<0
 o1:s0<=s
 o2:s<=r
 o3:r<=r0
structure Pl (a m b p s0 r0:Nat):Prop where
 i1:a<=s0
 i2:r0<=m
 i3:s0<=r0
 j1:m+r0<=p+1
 j2:p<s0+b
theorem Sy.up (hc:Cmp c ok) {g:Nat->Int} {n a m b p s0 r0 s r k:Nat} (hok:eK ok g n) (hbn:b<=n) (h1:bz c g a m) (h2:bz c g m b) (hp:Pl a m b p s0 r0) (h:Sy c g p s0 r0 s r) (hsk:s<=k) (hkr:k<r) (hk:¬c (g (p-k)) (g k)<0):Sy c g p s0 r0 (k+1) r:=by
 obtain⟨i1,i2,i3,j1,j2⟩:=hp;obtain⟨lo,hi,o1,o2,o3⟩:=h;refine⟨λq q1 q2=>?_,hi,by omega,by omega,o3⟩
 have e1:=h1.le hc hok (by have:=h2;omega) (i:=q) (j:=k) (by omega) (by omega) (by omega)
 have e2:=h2.le hc hok hbn (i:=p-k) (j:=p-q) (by omega) (by omega) (by omega)
 exact hc.le (hok q (by omega)) (hok (p-k) (by omega)) (hok (p-q) (by omega)) (hc.le (hok q (by omega)) (hok k (by omega)) (hok (p-k) (by omega)) e1 hk) e2
theorem Sy.down (hc:Cmp c ok) {g:Nat->Int} {n a m b p s0 r0 s r k:Nat} (hok:eK ok g n) (hbn:b<=n) (h1:bz c g a m) (h2:bz c g m b) (hp:Pl a m b p s0 r0) (h:Sy c g p s0 r0 s r) (hsk:s<=k) (hkr:k<r) (hk:c (g (p-k)) (g k)<0):Sy c g p s0 r0 s k:=by
 obtain⟨i1,i2,i3,j1,j2⟩:=hp;obtain⟨lo,hi,o1,o2,o3⟩:=h;refine⟨lo,λq q1 q2=>?_,o1,hsk,by omega⟩
 have e1:=h1.le hc hok (by omega) (i:=k) (j:=q) (by omega) (by omega) (by omega)
 have e2:=h2.le hc hok hbn (i:=p-q) (j:=p-k) (by omega) (by omega) (by omega)
 exact hc.ltl (hok (p-q) (by omega)) (hok k (by omega)) (hok q (by omega)) (hc.lel (hok (p-q) (by omega)) (hok (p-k) (by omega)) (hok k (by omega)) e2 hk) e1
structure Af (c:Int->Int->Int) (h:Nat->Int) (a s mid e b:Nat):Prop where
 s1:bz c h a s
 s2:bz c h s mid
 s3:bz c h mid e
 s4:bz c h e b
 x:∀i j,a<=i->i<mid->mid<=j->j<b->¬c (h j) (h i)<0
theorem wq (g:Nat->Int) {s m e:Nat} (h:¬(s<m/\m<e)) (h1:s<=m) (h2:m<=e):rot g s m e=g:=by
 funext k
 unfold rot;by_cases e1:s<=k/\k<s+(e-m)
 ·rw[if_pos e1];congr 1;omega
 ·rw[if_neg e1];by_cases e2:s+(e-m)<=k/\k<e
  ·rw[if_pos e2];congr 1;omega
  ·rw[if_neg e2]
theorem after (hc:Cmp c ok) {g:Nat->Int} {n a m b mid s0 r0 s e:Nat} (hok:eK ok g n) (hbn:b<=n) (h1:bz c g a m) (h2:bz c g m b) (hmid:(a+b)/2=mid) (ham:a<m) (hmb:m<b)
 (hsr:(mid<m/\s0+b=mid+m/\r0=mid)\/(m<=mid/\s0=a/\r0=m)) (h:Sy c g (mid+m-1) s0 r0 s s) (he:e+s=mid+m):Af c (rot g s m e) a s mid e b:=by
 obtain⟨lo,hi,o1,o2,o3⟩:=h;have hsm:s<=m:=by omega
 have hme:m<=e:=by omega
 have heb:e<=b:=by omega
 have hsmid:s<=mid:=by omega
 have hmide:mid<=e:=by omega
 have hasn:a<=s:=by omega
 have r1:∀i,i<s->rot g s m e i=g i:=λi hi=>nD (by omega) (by omega)
 have r2:∀i,s<=i->i<mid->rot g s m e i=g (m+(i-s)):=λi h1 h2=>nF (by omega) rfl
 have r3:∀i,mid<=i->i<e->rot g s m e i=g (i-(e-m)):=λi h1 h2=>nE (by omega) (by omega) rfl
 have r4:∀i,e<=i->rot g s m e i=g i:=λi h1=>nD (by omega) (by omega)
 have x1:∀i j,a<=i->i<s->e<=j->j<b->¬c (g j) (g i)<0:=λi j i1 i2 j1 j2=>by
  have q1:=h1.le hc hok (by omega) (i:=i) (j:=s-1) i1 (by omega) (by omega)
  have q2:=lo (s-1) (by omega) (by omega)
  rw[show mid+m-1-(s-1)=e from by omega] at q2
  have q3:=h2.le hc hok hbn (i:=e) (j:=j) hme j1 j2;exact hc.le (hok i (by omega)) (hok e (by omega)) (hok j (by omega)) (hc.le (hok i (by omega)) (hok (s-1) (by omega)) (hok e (by omega)) q1 q2) q3
 have x2:∀i j,m<=i->i<e->s<=j->j<m->¬c (g j) (g i)<0:=λi j i1 i2 j1 j2=>by
  have q1:=h2.le hc hok hbn (i:=i) (j:=e-1) i1 (by omega) (by omega)
  have q2:=hi s (Nat.le_refl _) (by omega)
  rw[show mid+m-1-s=e-1 from by omega] at q2
  have q3:=h1.le hc hok (by omega) (i:=s) (j:=j) hasn j1 j2
  have q4:=hc.asym _ _ (hok (e-1) (by omega)) (hok s (by omega)) q2
  exact hc.le (hok i (by omega)) (hok s (by omega)) (hok j (by omega)) (hc.le (hok i (by omega)) (hok (e-1) (by omega)) (hok s (by omega)) q1 q4) q3
 refine⟨λi j i1 ij j2=>?_,λi j i1 ij j2=>?_,λi j i1 ij j2=>?_,λi j i1 ij j2=>?_,λi j i1 i2 j1 j2=>?_⟩
 ·rw[r1 i (by omega),r1 j j2];exact h1 i j i1 ij (by omega)
 ·rw[r2 i i1 (by omega),r2 j (by omega) j2];exact h2 _ _ (by omega) (by omega) (by omega)
 ·rw[r3 i i1 (by omega),r3 j (by omega) j2];exact h1 _ _ (by omega) (by omega) (by omega)
 ·rw[r4 i i1,r4 j (by omega)];exact h2 i j (by omega) ij j2
 ·by_cases e1:i<s
  ·rw[r1 i e1];by_cases e2:j<e
   ·rw[r3 j j1 e2];exact h1 _ _ i1 (by omega) (by omega)
   ·rw[r4 j (by omega)];exact x1 i j i1 e1 (by omega) j2
  ·rw[r2 i (by omega) i2]
   by_cases e2:j<e
   ·rw[r3 j j1 e2];exact x2 _ _ (by omega) (by omega) (by omega) (by omega)
   ·rw[r4 j (by omega)];exact h2 _ _ (by omega) (by omega) j2
theorem k7 {a mid b s e:Nat} {h1 h2 h3:Nat->Int} (hx:Af c h1 a s mid e b) (m1:Mv a mid h1 h2) (s1:bz c h2 a mid) (m2:Mv mid b h2 h3) (s2:bz c h3 mid b):bz c h3 a b:=λi j i1 ij j2=>by
 by_cases e1:j<mid
 ·rw[m2.out i (by omega),m2.out j (by omega)];exact s1 i j i1 ij e1
 ·by_cases e2:i<mid
  ·obtain⟨j',j1',j2',ej⟩:=m2.src j (by omega) j2
   obtain⟨i',i1',i2',ei⟩:=m1.src i i1 e2;rw[ej,m1.out j' (by omega),m2.out i (by omega),ei]
   exact hx.x i' j' i1' i2' j1' j2'
  ·exact s2 i j (by omega) ij j2
end
end Go.Proofs.YtlhmejigmokbhaaGreatDoor.Pay
