/-
  Part 22 of a proof (walks and plain facts).
-/
import Derived.Test.YtfgeomlagfomgaaGreatDoorP20
set_option linter.all false
set_option maxRecDepth 100000
set_option maxHeartbeats 64000000
open Nat renaming reduceAdd → aa
open Go.Value renaming oneCell' → ab
open List renaming getElem?_cons_zero → ag
open List renaming getElem?_cons_succ → ah
open Nat renaming le_refl → ai
open List renaming replicate → aj
namespace Go.Proofs.YtfgeomlagfomgaaGreatDoor
open Go.RowKit
section
variable {n:Nat}
theorem H8 (f:Nat->Nat->Int) (x:Nat->Int):nrm n f (fun i=> - x i)=nrm n f x:=by
 unfold nrm
 rw[qH,uZ];omega
theorem o6 {f:Nat->Nat->Int} (hs:SymF f n) (x y:Nat->Int) (c:Int):nrm n f (fun i=>x i+c*y i)=nrm n f x+2*c*BF n f x y+c*c*nrm n f y:=by
 unfold nrm
 rw[jc,iE,iE,nM hs y x];grind
theorem KR {f:Nat->Nat->Int} {a b:Nat} (ha:a<n) (hb:b<n):BF n f (eC a) (eC b)=f a b:=by
 have e1: ∀(F:Nat->Int) a,a<n->dK (fun j=>F j*eC a j) n=F a:=fun F a ha=>by
  rw[jg ha (fun p _ hne=>by unfold eC;rw[if_neg hne,Int.mul_zero])]
  unfold eC;rw[if_pos rfl,Int.mul_one]
 unfold BF
 rw[bZ n (G:=fun k=>f k b*eC a k) (fun k _=>by rw[e1 (f k) b hb];exact Int.mul_comm _ _),e1 (fun k=>f k b) a ha]
theorem uq {f:Nat->Nat->Int} (hm:iM f n) {i:Nat} (hi:i<n) {x:Nat->Int} (hb: ∀j,j<i-> -1<=x j/\x j<=1) (h1:x i=1) (h0: ∀j,i<j->j<n->x j=0):f i i<=nrm n f x:=by
 rcases Int.lt_or_le (nrm n f x) (f i i)with h|h
 ·exact absurd (Gn hi hb h1 h0 h) (hm.2 i hi)
 exact h
theorem np {f:Nat->Nat->Int} (hm:iM f n) {j:Nat} (hj:j<n): ∀i,i<=j->f i i<=f j j:=fun i hi=>by
 obtain⟨m,rfl⟩: ∃m,j=i+m:=⟨j-i,by omega⟩
 induction m with
 |zero=>exact Int.le_refl _
 |succ m ih=>
  have h1:=ih (by omega) (by omega)
  have h2:=(hm.1 (i+m) (by omega)).1
  rw[<- Nat.add_assoc];omega
theorem xM {f:Nat->Nat->Int} (hs:SymF f n) (hm:iM f n) {i j:Nat} (hij:i<j) (hj:j<n): -(f i i)<=2*f i j/\2*f i j<=f i i:=by
 have key: ∀c:Int,-1<=c->c<=1->f j j<=f j j+2*c*f j i+c*c*f i i:=fun c h1 h2=>by
  have h:=uq hm hj (x:=fun r=>eC j r+c*eC i r) (fun r hr=>by
   unfold eC
   rw[if_neg (by omega)]
   split<;>omega) (by unfold eC;rw[if_pos rfl,if_neg (by omega)];omega) (fun r hr _=>by unfold eC;rw[if_neg (by omega),if_neg (by omega)];omega)
  rw[o6 hs,kP hj,kP (by omega),KR hj (by omega)]at h
  exact h
 have h1:=key 1 (by omega) (by omega)
 have h2:=key (-1) (by omega) (by omega)
 have e:=hs i (by omega) j hj
 omega
theorem CM {f:Nat->Nat->Int} (hs:SymF f n) (hm:iM f n) {i j:Nat} (hi:i<n) (hj:j<n) (hij:i≠j): -(f j j)<=2*f i j/\2*f i j<=f j j:=by
 rcases Nat.lt_or_ge i j with h|h
 ·have h1:=xM hs hm h hj
  have h2:=np hm hj i (by omega)
  omega
 have h1:=xM hs hm (show j<i by omega) hi
 have e:=hs i hi j hj
 omega
def tB (y:Nat->Int) (k:Nat):Nat->Int:=fun j=>if j<k then(if 0<y j then 1 else if y j<0 then -1 else 0)else 0
theorem Ks (y:Nat->Int) (k j:Nat): -1<=tB y k j/\tB y k j<=1:=by
 unfold tB;split
 ·split
  ·omega
  split<;>omega
 omega
def l1 (y:Nat->Int):Nat->Nat
 |0=>0
 |k+1=>l1 y k+(y k).natAbs
theorem A4 {y:Nat->Int}: ∀{k},l1 y k=0-> ∀j,j<k->y j=0
 |k+1,h,j,hj=>by
  rw[l1]at h
  by_cases e:j=k
  ·subst e;omega
  exact A4 (k:=k) (by omega) j (by omega)
theorem EE {y:Nat->Int} {K:Nat}: ∀k,k<=K->l1 (fun j=>y j+ -1*tB y K j) k<=l1 y k/\(l1 y k≠0->l1 (fun j=>y j+ -1*tB y K j) k<l1 y k)
 |0,_=>by simp[l1]
 |k+1,hk=>by
  have ih:=EE (y:=y) (K:=K) k (by omega)
  have h1:(y k+ -1*tB y K k).natAbs<=(y k).natAbs/\((y k).natAbs≠0->(y k+ -1*tB y K k).natAbs<(y k).natAbs):=by
   unfold tB
   rw[if_pos (by omega)]
   split
   ·omega
   split<;>omega
  rw[l1,l1]
  refine⟨by omega,fun h=>?_⟩
  by_cases e:l1 y k=0
  ·have:=h1.2 (by omega);omega
  have:=ih.2 e;omega
theorem AF {f:Nat->Nat->Int} (hs:SymF f n) (hm:iM f n) {e:Nat->Int} (he: ∀j,-1<=e j/\e j<=1) {j:Nat} (hj:j<n) (hej:e j=1\/e j= -1) (hd:0<=f j j): ∀m,m<=n->(if j<m then 2*f j j-((m-1:Nat):Int)*f j j else-((m:Nat):Int)*f j j)<=2*(e j*dK (fun i=>e i*f i j) m)
 |0,_=>by simp[dK]
 |m+1,hmn=>by
  have ih:=AF hs hm he hj hej hd m (by omega)
  rw[dK]
  have hmul:((m+1:Nat):Int)*f j j=((m:Nat):Int)*f j j+f j j:=by rw[Int.natCast_add,Int.add_mul];simp
  by_cases h:m=j
  ·subst h
   rw[if_neg (by omega)]at ih
   rw[if_pos (by omega),Nat.add_sub_cancel]
   have e1:e m*(e m*f m m)=f m m:=by rcases hej with h|h<;>rw[h]<;>omega
   have e2:2*(e m*(dK (fun i=>e i*f i m) m+e m*f m m))=2*(e m*dK (fun i=>e i*f i m) m)+2*f m m:=by
    rw[Int.mul_add,e1];omega
   rw[e2]
   have: -((m:Nat):Int)*f m m= -(((m:Nat):Int)*f m m):=Int.neg_mul _ _
   omega
  have hh:=CM hs hm (show m<n by omega) hj h
  have hem:=he m
  have e3: -(f j j)<=2*(e j*(e m*f m j)):=by
   have c:e m= -1\/e m=0\/e m=1:=by omega
   rcases hej with h1|h1<;>rcases c with h2|h2|h2<;>rw[h1,h2]<;>omega
  have e2:2*(e j*(dK (fun i=>e i*f i j) m+e m*f m j))=2*(e j*dK (fun i=>e i*f i j) m)+2*(e j*(e m*f m j)):=by
   rw[Int.mul_add];omega
  rw[e2]
  have n1: -((m:Nat):Int)*f j j= -(((m:Nat):Int)*f j j):=Int.neg_mul _ _
  have n2: -((m+1:Nat):Int)*f j j= -(((m+1:Nat):Int)*f j j):=Int.neg_mul _ _
  by_cases hjm:j<m
  ·rw[if_pos hjm]at ih
   rw[if_pos (by omega),Nat.add_sub_cancel]
   have hmul2:((m:Nat):Int)*f j j=((m-1:Nat):Int)*f j j+f j j:=by
    have:((m:Nat):Int)=((m-1:Nat):Int)+1:=by omega
    rw[this,Int.add_mul,Int.one_mul]
   omega
  rw[if_neg hjm]at ih
  rw[if_neg (by omega)]
  omega
theorem Js {f:Nat->Nat->Int} {x y:Nat->Int} {k:Nat} (hk:k<=n) (hx: ∀i,k<=i->i<n->x i=0):BF n f x y=dK (fun j=>y j*dK (fun i=>x i*f i j) k) n:=by
 unfold BF
 rw[bZ n (G:=fun i=>dK (fun j=>x i*f i j*y j) n) (fun i _=>by rw[<- d8];exact bZ n fun j _=>by grind),lE]
 refine bZ n fun j _=>?_
 obtain⟨m,rfl⟩: ∃m,n=k+m:=⟨n-k,by omega⟩
 have ext: ∀m,(∀i,k<=i->i<k+m->x i=0)->dK (fun i=>x i*f i j*y j) (k+m)=dK (fun i=>x i*f i j*y j) k:=fun m=>by
  induction m with
  |zero=>intro _;rfl
  |succ m ih=>
   intro h
   rw[<- Nat.add_assoc,dK,ih (fun i h1 h2=>h i h1 (by omega)),h (k+m) (by omega) (by omega)]
   simp
 rw[ext m (fun i h1 h2=>hx i h1 h2),mU,Int.mul_comm]
theorem zC {f:Nat->Nat->Int} (hp:PD f n) (hm:iM f n) {k:Nat} (hk:k<n) (hk3:k<=3): ∀(l:Nat) (y:Nat->Int),l1 y k=l->(∀j,k<=j->j<n->y j=0)->0<=nrm n f y+2*BF n f y (eC k):=fun l=>by
 induction l using Nat.strongRecOn with
 |_ l ih=>
  intro y hl hy
  by_cases h0:l1 y k=0
  ·have hz: ∀j,j<n->y j=0:=fun j hj=>by
    rcases Nat.lt_or_ge j k with h|h
    ·exact A4 h0 j h
    exact hy j h hj
   unfold nrm
   rw[m5 hz,m5 hz];omega
  obtain⟨e,hE⟩: ∃e,e=tB y k:=⟨_,rfl⟩
  obtain⟨y',hY⟩: ∃y':Nat->Int,y'=fun j=>y j+ -1*tB y k j:=⟨_,rfl⟩
  have heb: ∀j,-1<=e j/\e j<=1:=fun j=>by rw[hE];exact Ks y k j
  have he0: ∀j,k<=j->e j=0:=fun j hj=>by rw[hE];unfold tB;rw[if_neg (by omega)]
  have hy0: ∀j,k<=j->j<n->y' j=0:=fun j hj hjn=>by
   rw[hY]
   show y j+ -1*tB y k j=0
   rw[hy j hj hjn,<- hE,he0 j hj];rfl
  have hsum: ∀j,j<n->y j=e j+1*y' j:=fun j _=>by rw[hE,hY];show y j=tB y k j+1*(y j+ -1*tB y k j);omega
  have h1:=ih (l1 y' k) (by rw[<- hl,hY];exact(EE k (ai k)).2 h0) y' rfl hy0
  -- the sign vector
  have h2:0<=nrm n f e+2*BF n f e (eC k):=by
   have h:=uq hm hk (x:=fun r=>e r+1*eC k r) (fun r hr=>by
    have:=heb r
    unfold eC;rw[if_neg (by omega)];omega) (by show e k+1*eC k k=1;rw[he0 k (by omega)];simp[eC]) (fun r hr _=>by
    show e r+1*eC k r=0
    rw[he0 r (by omega)];unfold eC;rw[if_neg (by omega)];rfl)
   rw[o6 hp.1,kP hk]at h
   omega
  -- the inner product
  have h3:0<=BF n f e y':=by
   rw[Js (k:=k) (by omega) (fun i h _=>he0 i h)]
   refine mi n fun j hj=>?_
   rcases Nat.lt_or_ge j k with hjk|hjk
   ·by_cases hz:y' j=0
    ·rw[hz,Int.zero_mul];omega
    have hd:=hp.diag hj
    have hej:(e j=1/\0<y' j)\/(e j= -1/\y' j<0):=by
     rw[hE,hY]
     rw[hY]at hz
     have hz:y j+ -1*tB y k j≠0:=hz
     show(tB y k j=1/\0<y j+ -1*tB y k j)\/(tB y k j= -1/\y j+ -1*tB y k j<0)
     have e0:tB y k j=if 0<y j then 1 else if y j<0 then -1 else 0:=by unfold tB;rw[if_pos hjk]
     rw[e0]at hz⊢
     split
     ·rename_i hpos
      rw[if_pos hpos]at hz
      left;omega
     rename_i hpos
     rw[if_neg hpos]at hz
     split
     ·rename_i hneg
      rw[if_pos hneg]at hz
      right;omega
     rename_i hneg
     rw[if_neg hneg]at hz
     omega
    have hc:=AF hp.1 hm heb hj (by rcases hej with h|h;exact .inl h.1;exact .inr h.1) (by omega) k (by omega)
    rw[if_pos hjk]at hc
    have hk2:((k-1:Nat):Int)*f j j<=2*f j j:=Int.mul_le_mul_of_nonneg_right (by omega) (by omega)
    generalize dK (fun i=>e i*f i j) k=S at*
    rcases hej with⟨g1,g2⟩|⟨g1,g2⟩
    ·rw[g1]at hc
     exact Int.mul_nonneg (by omega) (by omega)
    rw[g1]at hc
    exact Int.mul_nonneg_of_nonpos_of_nonpos (by omega) (by omega)
   rw[hy0 j hjk hj,Int.zero_mul];omega
  have e5:nrm n f y=nrm n f e+2*BF n f e y'+nrm n f y':=by
   rw[ja hsum,o6 hp.1];omega
  have e6:BF n f y (eC k)=BF n f e (eC k)+BF n f y' (eC k):=by
   rw[iy (x':=fun j=>e j+1*y' j) (fun _ _ _ _=>rfl) hsum (fun _ _=>rfl),jc];omega
  omega
end
section
variable {n:Nat}
theorem xN {f:Nat->Nat->Int} (hp:PD f n) (hm:iM f n) {k:Nat} (hk:k<n) (hk3:k<=3) {x:Nat->Int} (h1:x k=1) (h0: ∀j,k<j->j<n->x j=0):f k k<=nrm n f x:=by
 have h:=zC hp hm hk hk3 _ (fun j=>if j<k then x j else 0) rfl (fun j hj _=>if_neg (by omega))
 have e: ∀j,j<n->x j=(fun j=>if j<k then x j else 0) j+1*eC k j:=fun j hj=>by
  show x j=(if j<k then x j else 0)+1*eC k j
  unfold eC
  by_cases h2:j<k
  ·rw[if_pos h2,if_neg (by omega)];omega
  rw[if_neg h2]
  by_cases h3:j=k
  ·subst h3;rw[if_pos rfl,h1];rfl
  rw[if_neg h3,h0 j (by omega) hj];rfl
 rw[ja e,o6 hp.1,kP hk]
 omega
theorem H7 (f:Nat->Nat->Int) (m:Int) (x:Nat->Int):nrm n f (fun i=>m*x i)=m*m*nrm n f x:=by
 unfold nrm BF
 rw[<- d8]
 refine bZ n fun i _=>?_
 rw[bZ n (G:=fun j=>m*(f i j*x j)) (fun j _=>by grind),d8]
 grind
theorem ur {f:Nat->Nat->Int} (hp:PD f n) (hm:iM f n) {k:Nat} (hk:k<n) (hk3:k<=3) {m:Int} (hm0:0<m): ∀j,j<=k-> ∀u:Nat->Int,u k=m->(∀i,k<i->i<n->u i=0)->(∀i,j<=i->i<k->m∣u i)->
  m*m*(4*f k k-dK (fun i=>f i i) j)<=4*nrm n f u
 |0,_,u,h1,h0,hd=>by
  have e: ∀i,i<n->u i=m*(if k<i then 0 else u i/m):=fun i hi=>by
   by_cases h:k<i
   ·rw[if_pos h,h0 i h hi];simp
   rw[if_neg h]
   by_cases h2:i=k
   ·subst h2;rw[h1,Int.ediv_self (by omega)];simp
   exact(Int.mul_ediv_cancel' (hd i (by omega) (by omega))).symm
  have h2:=xN hp hm hk hk3 (x:=fun i=>if k<i then 0 else u i/m) (by
   show(if k<k then 0 else u k/m)=1
   rw[if_neg (by omega),h1,Int.ediv_self (by omega)]) (fun j hj _=>if_pos hj)
  rw[ja e,H7]
  have h3:=Int.mul_le_mul_of_nonneg_left h2 (Int.mul_nonneg (Int.le_of_lt hm0) (Int.le_of_lt hm0))
  have e0:dK (fun i=>f i i) 0=0:=rfl
  rw[e0]
  have e4:m*m*(4*f k k-0)=4*(m*m*f k k):=by grind
  omega
 |j+1,hj,u,h1,h0,hd=>by
  have hjn:j<n:=by omega
  obtain⟨r,hr⟩: ∃r,r=u j%m:=⟨_,rfl⟩
  have r0:0<=r:=by rw[hr];exact Int.emod_nonneg _ (by omega)
  have r1:r<m:=by rw[hr];exact Int.emod_lt_of_pos _ hm0
  have hdj:m∣u j+ -r:=by
   have:u j+ -r=m*(u j/m):=by have:=Int.mul_ediv_add_emod (u j) m;omega
   exact⟨u j/m,this⟩
  have sub: ∀c:Int,m∣u j+c->m*m*(4*f k k-dK (fun i=>f i i) j)<=4*nrm n f (fun i=>u i+c*eC j i):=fun c hc=>by
   refine ur hp hm hk hk3 hm0 j (by omega) _ ?_ (fun i hi hin=>?_) (fun i hi hik=>?_)
   ·show u k+c*eC j k=m
    unfold eC;rw[if_neg (by omega),h1];omega
   ·show u i+c*eC j i=0
    unfold eC;rw[if_neg (by omega),h0 i hi hin];omega
   show m∣u i+c*eC j i
   unfold eC
   by_cases e:i=j
   ·subst e;rw[if_pos rfl,Int.mul_one];exact hc
   rw[if_neg e,Int.mul_zero,Int.add_zero];exact hd i (by omega) hik
  have a0:=sub (-r) hdj
  have a1:=sub (m-r) (by
   obtain⟨q,hq⟩:=hdj
   exact⟨q+1,by rw[Int.mul_add,<- hq];omega⟩)
  rw[o6 hp.1,kP hjn]at a0 a1
  have hW:=hp.diag hjn
  rw[dK]
  generalize dK (fun i=>f i i) j=S at*
  generalize BF n f u (eC j)=B at*
  generalize nrm n f u=U at*
  generalize f j j=W at*
  generalize f k k=K at*
  -- (m - r) a0 + r a1
  have b0:=Int.mul_le_mul_of_nonneg_left a0 (show 0<=m-r by omega)
  have b1:=Int.mul_le_mul_of_nonneg_left a1 r0
  have e1:(m-r)*(4*(U+2* -r*B+ -r* -r*W))+r*(4*(U+2*(m-r)*B+(m-r)*(m-r)*W))=m*(4*U+4*(r*(m-r))*W):=by grind
  have e2:(m-r)*(m*m*(4*K-S))+r*(m*m*(4*K-S))=m*(m*m*(4*K-S)):=by grind
  have h3:m*(m*m*(4*K-S))<=m*(4*U+4*(r*(m-r))*W):=by omega
  have h4:=Int.le_of_mul_le_mul_left h3 hm0
  have h5:4*(r*(m-r))<=m*m:=by
   have:0<=(m-2*r)*(m-2*r):=by
    rcases Int.le_total 0 (m-2*r)with h|h
    ·exact Int.mul_nonneg h h
    exact Int.mul_nonneg_of_nonpos_of_nonpos h h
   have e:(m-2*r)*(m-2*r)=m*m-4*(r*(m-r)):=by grind
   omega
  have h6:=Int.mul_le_mul_of_nonneg_right h5 (Int.le_of_lt hW)
  have e3:m*m*(4*K-(S+W))=m*m*(4*K-S)-m*m*W:=by grind
  omega
theorem EP {f:Nat->Nat->Int} (hp:PD f n) (hm:iM f n) (hn:n<=4) {k:Nat} (hk:k<n) {x:Nat->Int} (hx:x k≠0) (h0: ∀j,k<j->j<n->x j=0):f k k<=nrm n f x:=by
 have pos: ∀x:Nat->Int,0<x k->(∀j,k<j->j<n->x j=0)->f k k<=nrm n f x:=fun x hx h0=>by
  have hd:=hp.diag hk
  by_cases h1:x k=1
  ·exact xN hp hm hk (by omega) h1 h0
  have h2:=ur hp hm hk (by omega) (m:=x k) hx k (ai k) x rfl h0 (fun i h3 h4=>by omega)
  have hs:dK (fun i=>f i i) k<=3*f k k:=by
   have: ∀j,j<=k->dK (fun i=>f i i) j<=(j:Int)*f k k:=fun j=>by
    induction j with
    |zero=>intro _;simp[dK]
    |succ j ih=>
     intro hj
     have h3:=ih (by omega)
     have h4:=np hm hk j (by omega)
     rw[dK,Int.natCast_add,Int.add_mul];simp;omega
   have h3:=this k (ai k)
   have h4:(k:Int)*f k k<=3*f k k:=Int.mul_le_mul_of_nonneg_right (by omega) (by omega)
   omega
  have h5:x k*x k*f k k<=x k*x k*(4*f k k-dK (fun i=>f i i) k):=Int.mul_le_mul_of_nonneg_left (by omega) (Int.mul_nonneg (by omega) (by omega))
  have h6:2*2<=x k*x k:=Int.mul_le_mul (by omega) (by omega) (by omega) (by omega)
  have h7:=Int.mul_le_mul_of_nonneg_right h6 (Int.le_of_lt hd)
  omega
 rcases Int.lt_or_le 0 (x k)with h|h
 ·exact pos x h h0
 rw[<- H8]
 exact pos (fun i=> - x i) (by show 0< - x k;omega) (fun j h1 h2=>by show-x j=0;rw[h0 j h1 h2];rfl)
end
section
variable {n:Nat}
theorem F1 {F:Nat->Int} {p q m:Nat} (hp:p<m) (hq:q<m):dK (fun a=>if a=p then F q else if a=q then F p else F a) m=dK F m:=by
 by_cases h:p=q
 ·subst h
  exact bZ m fun a _=>by
   by_cases e:a=p
   ·subst e;rw[if_pos rfl]
   rw[if_neg e,if_neg e]
 have h1:=qY (F:=F) (G:=fun a=>if a=p then F q else F a) hp (fun a _ hne=>(if_neg hne).symm)
 have h2:=qY (F:=fun a=>if a=p then F q else F a) (G:=fun a=>if a=p then F q else if a=q then F p else F a) hq (fun a _ hne=>by
  by_cases e:a=p
  ·rw[if_pos e,if_pos e]
  rw[if_neg e,if_neg e,if_neg hne])
 rw[if_pos rfl]at h1
 rw[if_neg (Ne.symm h),if_pos rfl,if_neg (Ne.symm h)]at h2
 omega
theorem vu: ∀(i:Nat) (X:Nat->Nat->Int),∃c:Nat->Int,(∃a,a<=i/\c a≠0)/\ ∀r,r<i->dK (fun a=>c a*X a r) (i+1)=0
 |0,_=>⟨fun _=>1,⟨0,by omega,by simp⟩,fun r hr=>by omega⟩
 |i+1,X=>by
  by_cases hz: ∀a,a<=i+1->X a i=0
  ·obtain⟨c,⟨a,ha,hc⟩,h⟩:=vu i X
   refine⟨fun a=>if a=i+1 then 0 else c a,⟨a,by omega,by show(if a=i+1 then 0 else c a)≠0;rw[if_neg (by omega)];exact hc⟩,fun r hr=>?_⟩
   show dK (fun a=>(if a=i+1 then 0 else c a)*X a r) (i+1+1)=0
   rw[dK,if_pos rfl,Int.zero_mul,Int.add_zero]
   by_cases e:r=i
   ·subst e
    rw[bZ (r+1) (G:=fun _=>0) (fun a ha=>by rw[hz a (by omega),Int.mul_zero]),fQ]
   rw[bZ (i+1) (G:=fun a=>c a*X a r) (fun a ha=>by rw[if_neg (by omega)])]
   exact h r (by omega)
  obtain⟨p,hp,hpz⟩: ∃p,p<=i+1/\X p i≠0:=by
   rcases Classical.em (∃p,p<=i+1/\X p i≠0)with h|h
   ·exact h
   exact absurd (fun a ha=>Classical.byContradiction fun hne=>h ⟨a,ha,hne⟩) hz
  obtain⟨Y,hY⟩: ∃Y:Nat->Nat->Int,Y=fun a=>if a=p then X (i+1)else if a=i+1 then X p else X a:=⟨_,rfl⟩
  have hYl:Y (i+1)=X p:=by
   rw[hY]
   by_cases e:i+1=p
   ·show(if i+1=p then X (i+1)else _)=_;rw[if_pos e,e]
   show(if i+1=p then X (i+1)else if i+1=i+1 then X p else X (i+1))=_;rw[if_neg e,if_pos rfl]
  obtain⟨q,hq⟩: ∃q,q=X p i:=⟨_,rfl⟩
  obtain⟨c,⟨a0,ha0,hc0⟩,h⟩:=vu i (fun a r=>q*Y a r-Y a i*X p r)
  obtain⟨s,hs⟩: ∃s,s=dK (fun a=>c a*Y a i) (i+1):=⟨_,rfl⟩
  have hsum: ∀r,r<i+1->dK (fun a=>(if a=i+1 then -s else q*c a)*Y a r) (i+1+1)=0:=fun r hr=>by
   rw[dK,if_pos rfl,hYl,bZ (i+1) (G:=fun a=>q*(c a*Y a r)) (fun a ha=>by rw[if_neg (by omega)];grind),d8]
   by_cases e:r=i
   ·subst e
    rw[<- hs,<- hq];grind
   have h1:=h r (by omega)
   have h2:dK (fun a=>c a*(q*Y a r-Y a i*X p r)) (i+1)=q*dK (fun a=>c a*Y a r) (i+1)-X p r*s:=by
    rw[hs,<- d8,<- d8]
    have: ∀(F G:Nat->Int) m,dK (fun a=>F a-G a) m=dK F m-dK G m:=fun F G m=>by
     induction m with
     |zero=>rfl
     |succ m ih=>rw[dK,dK,dK,ih];omega
    rw[<- this]
    exact bZ _ fun a _=>by grind
   rw[h2]at h1
   have e1: -s*X p r= -(X p r*s):=by grind
   rw[e1];omega
  refine⟨fun a=>if a=p then -s else if a=i+1 then(if p=i+1 then -s else q*c p)else q*c a,?_,fun r hr=>?_⟩
  ·by_cases e:a0=p
   ·by_cases e2:p=i+1
    ·omega
    refine⟨i+1,by omega,?_⟩
    show(if i+1=p then -s else if i+1=i+1 then(if p=i+1 then -s else q*c p)else q*c (i+1))≠0
    rw[if_neg (by omega),if_pos rfl,if_neg e2]
    subst e
    exact Int.mul_ne_zero (by rw[hq];exact hpz) hc0
   refine⟨a0,by omega,?_⟩
   show(if a0=p then -s else if a0=i+1 then(if p=i+1 then -s else q*c p)else q*c a0)≠0
   rw[if_neg e,if_neg (by omega)]
   exact Int.mul_ne_zero (by rw[hq];exact hpz) hc0
  rw[<- hsum r hr,<- F1 (F:=fun a=>(if a=i+1 then -s else q*c a)*Y a r) (p:=p) (q:=i+1) (by omega) (by omega)]
  refine bZ _ fun a ha=>?_
  show(if a=p then -s else if a=i+1 then(if p=i+1 then -s else q*c p)else q*c a)*X a r=if a=p then(if i+1=i+1 then -s else q*c (i+1))*Y (i+1) r else if a=i+1 then(if p=i+1 then -s else q*c p)*Y p r else(if a=i+1 then -s else q*c a)*Y a r
  by_cases e:a=p
  ·subst e
   rw[if_pos rfl,if_pos rfl,if_pos rfl,hYl]
  rw[if_neg e,if_neg e]
  by_cases e2:a=i+1
  ·subst e2
   rw[if_pos rfl,if_pos rfl]
   have:Y p=X (i+1):=by rw[hY];exact if_pos rfl
   rw[this]
  rw[if_neg e2,if_neg e2,if_neg e2]
  have:Y a=X a:=by rw[hY];show(if a=p then X (i+1)else if a=i+1 then X p else X a)=X a;rw[if_neg e,if_neg e2]
  rw[this]
def yL (n:Nat) (t:Nat->Nat->Int):Prop:= ∃s:(Nat->Int)->Nat->Int,∀v j,j<n->mV n t (s v) j=v j
theorem Kg (h t:Nat->Nat->Int) (x:Nat->Int):nrm n h (mV n t x)=nrm n (cngF n h t) x:=uY h t x x
theorem xJ {h t u:Nat->Nat->Int} (hn:n<=4) (hf:PD (cngF n h t) n) (mf:iM (cngF n h t) n) (mg:iM (cngF n h u) n) (ht:yL n t) (hu:dk u n≠0) {i:Nat} (hi:i<n):cngF n h t i i<=cngF n h u i i:=by
 obtain⟨s,hs⟩:=ht
 rcases Int.lt_or_le (cngF n h u i i) (cngF n h t i i)with hlt|hle
 ·exfalso
  obtain⟨X,hX⟩: ∃X:Nat->Nat->Int,X=fun a=>s (fun r=>u r a):=⟨_,rfl⟩
  have hTX: ∀a j,j<n->mV n t (X a) j=u j a:=fun a j hj=>by rw[hX];exact hs _ j hj
  have hN: ∀a,nrm n (cngF n h t) (X a)=cngF n h u a a:=fun a=>by
   rw[<- Kg,ja (hTX a),iG];rfl
  have hzero: ∀a,a<=i-> ∀m k,m+k+1=n->i<=k->X a k=0:=fun a ha m=>by
   induction m using Nat.strongRecOn with
   |_ m ih=>
    intro k hk hik
    refine Classical.byContradiction fun hne=>?_
    have h1:=EP hf mf hn (show k<n by omega) hne (fun j hj hjn=>ih (n-j-1) (by omega) j (by omega) (by omega))
    have h2:=np mf (show k<n by omega) i hik
    have h3:=np mg hi a ha
    rw[hN]at h1
    omega
  obtain⟨c,⟨a,ha,hc⟩,h0⟩:=vu i X
  have hker:=rT hu (x:=fun a=>if a<=i then c a else 0) (fun r hr=>by
   have e1: ∀m,i+1<=m->dK (fun j=>u r j*(if j<=i then c j else 0)) m=dK (fun j=>u r j*c j) (i+1):=fun m hm=>by
    obtain⟨d,rfl⟩: ∃d,m=i+1+d:=⟨m-(i+1),by omega⟩
    induction d with
    |zero=>exact bZ _ fun j hj=>by rw[if_pos (by omega)]
    |succ d ihd=>rw[<- Nat.add_assoc,dK,ihd (by omega),if_neg (by omega)];omega
   rw[e1 n (by omega),bZ (i+1) (G:=fun j=>dK (fun b=>c j*X j b*t r b) n) (fun j hj=>by
    rw[<- hTX j r hr]
    unfold mV
    rw[Int.mul_comm,<- d8]
    exact bZ n fun b _=>by grind),lE,bZ n (G:=fun _=>0) (fun b hb=>by
    rw[bZ (i+1) (G:=fun j=>(c j*X j b)*t r b) (fun _ _=>rfl),mU]
    by_cases hbi:b<i
    ·rw[h0 b hbi,Int.zero_mul]
    rw[bZ (i+1) (G:=fun _=>0) (fun j hj=>by rw[hzero j (by omega) (n-b-1) b (by omega) (by omega),Int.mul_zero]),fQ,Int.zero_mul]),fQ]) a (by omega)
  rw[if_pos ha]at hker
  exact hc hker
 exact hle
theorem xI {h t u:Nat->Nat->Int} (hn:n<=4) (hp:PD h n) (mf:iM (cngF n h t) n) (mg:iM (cngF n h u) n) (ht:yL n t) (hu:yL n u) (dt:dk t n≠0) (du:dk u n≠0) {i:Nat} (hi:i<n):cngF n h t i i=cngF n h u i i:=by
 have h1:=xJ hn (hp.cng dt) mf mg ht du hi
 have h2:=xJ hn (hp.cng du) mg mf hu dt hi
 omega
end
section
variable {n:Nat}
def ox (n:Nat) (t:Nat->Nat->Int):Prop:= ∀v:Nat->Int,∃y,∀j,j<n->mV n t y j=v j
theorem ox.rinv {t:Nat->Nat->Int} (h:ox n t):yL n t:=⟨fun v=>Classical.choose (h v),fun v=>Classical.choose_spec (h v)⟩
theorem ox.of {t t':Nat->Nat->Int} (h:ox n t) (k: ∀x,∃y,∀j,j<n->mV n t' y j=mV n t x j):ox n t':=fun v=>by
 obtain⟨x,hx⟩:=h v
 obtain⟨y,hy⟩:=k x
 exact⟨y,fun j hj=>by rw[hy j hj,hx j hj]⟩
theorem ox.one:ox n (fun i j=>if i=j then 1 else 0):=fun v=>⟨v,fun j hj=>by
 show dK (fun a=>v a*(if j=a then 1 else 0)) n=v j
 rw[jg hj (fun p _ hne=>by rw[if_neg (Ne.symm hne),Int.mul_zero]),if_pos rfl,Int.mul_one]⟩
theorem ox.congr {t t':Nat->Nat->Int} (h:ox n t) (e: ∀i j,i<n->j<n->t' i j=t i j):ox n t':=h.of fun x=>⟨x,fun j hj=>bZ n fun a ha=>by rw[e j a hj ha]⟩
theorem ox.swap {t:Nat->Nat->Int} (h:ox n t) {p q:Nat} (hp:p<n) (hq:q<n):ox n (fun i c=>if c=p then t i q else if c=q then t i p else t i c):=h.of fun x=>
 ⟨fun a=>if a=p then x q else if a=q then x p else x a,fun j _=>by
  unfold mV
  rw[<- F1 (F:=fun a=>x a*t j a) hp hq]
  refine bZ n fun a _=>?_
  show(if a=p then x q else if a=q then x p else x a)*(if a=p then t j q else if a=q then t j p else t j a)=if a=p then x q*t j q else if a=q then x p*t j p else x a*t j a
  by_cases e:a=p
  ·rw[if_pos e,if_pos e,if_pos e]
  rw[if_neg e,if_neg e,if_neg e]
  by_cases e2:a=q
  ·rw[if_pos e2,if_pos e2,if_pos e2]
  rw[if_neg e2,if_neg e2,if_neg e2]⟩
theorem ox.comb {t:Nat->Nat->Int} (h:ox n t) {i:Nat} (hi:i<n) {c:Nat->Int} (hc:c i=1):ox n (fb t i (mV n t c)):=h.of fun x=>
 ⟨fun a=>if a=i then x i else x a-x i*c a,fun j _=>by
  have h1:=qY (F:=fun a=>(x a-x i*c a)*t j a) (G:=fun a=>(if a=i then x i else x a-x i*c a)*fb t i (mV n t c) j a) hi (fun a _ hne=>by
   show _=(if a=i then x i else x a-x i*c a)*fb t i (mV n t c) j a
   unfold fb
   rw[if_neg hne,if_neg hne])
  have h2:dK (fun a=>(x a-x i*c a)*t j a) n=dK (fun a=>x a*t j a) n-x i*dK (fun a=>c a*t j a) n:=by
   rw[<- d8]
   have: ∀(F G:Nat->Int) m,dK (fun a=>F a-G a) m=dK F m-dK G m:=fun F G m=>by
    induction m with
    |zero=>rfl
    |succ m ih=>rw[dK,dK,dK,ih];omega
   rw[<- this]
   exact bZ _ fun a _=>by grind
  have e1:(if i=i then x i else x i-x i*c i)*fb t i (mV n t c) j i=x i*dK (fun a=>c a*t j a) n:=by
   unfold fb mV
   rw[if_pos rfl,if_pos rfl]
  show dK (fun a=>(if a=i then x i else x a-x i*c a)*fb t i (mV n t c) j a) n=dK (fun a=>x a*t j a) n
  rw[h1,h2,e1,hc]
  have e2:(x i-x i*1)*t j i=0:=by rw[Int.mul_one,Int.sub_self,Int.zero_mul]
  rw[e2];omega⟩
theorem ox.sign {t:Nat->Nat->Int} (h:ox n t) {s:Nat->Int} (hs: ∀a,s a=1\/s a= -1):ox n (fun i c=>s c*t i c):=h.of fun x=>
 ⟨fun a=>s a*x a,fun j _=>bZ n fun a _=>by
  show s a*x a*(s a*t j a)=x a*t j a
  rcases hs a with e|e<;>rw[e]<;>grind⟩
/-! The program's loop. -/
theorem xr (N:(Nat->Int)->Int): ∀j B,j<n->ox n (trF B)->ox n (trF (insB N B j))
 |0,_,_,h=>h
 |j+1,B,hj,h=>by
  rw[insB]
  split
  ·refine xr N j _ (by omega) ?_
   rw[Gg]
   exact h.swap hj (by omega)
  exact h
theorem sY (N:(Nat->Int)->Int) {B:Nat->Nat->Int} (h:ox n (trF B)): ∀i,i<=n->ox n (trF (lF N B i))
 |0,_=>h
 |i+1,hi=>xr N i _ (by omega) (sY N h i (by omega))
theorem Fu {h B R:Nat->Nat->Int} (hr:RchB n h B R) (hB:ox n (trF B)):ox n (trF R):=by
 induction hr with
 |done B hv=>exact sY _ hB n (ai n)
 |step B R i hv _ ih=>
  obtain⟨_,h1,h2,_⟩:=jR n 0 i hv
  refine ih ?_
  rw[Gf]
  exact ox.comb (sY _ hB n (ai n)) (by omega) (sU n _ i (3^i)).1
theorem IF {g B:Nat->Nat->Int} (h:ox n (trF B)):ox n (trF (wA g B)):=h.sign (s:=mc g) (md g)
/-! The reference's loop. -/
end
theorem pJ (f:Nat->Nat->Int):dk f 2=f 0 0*f 1 1-f 0 1*f 1 0:=by
 simp[dk,om,fk,mt]
 grind
theorem AJ (h t:Nat->Nat->Int):dk (cngF 2 h t) 2=dk h 2*(dk t 2*dk t 2):=by
 rw[pJ,pJ,pJ]
 simp only[iG,BF,dK]
 grind
theorem EQ {h t u:Nat->Nat->Int} (hp:PD h 2) (mf:iM (cngF 2 h t) 2) (mg:iM (cngF 2 h u) 2) (ht:yL 2 t) (hu:yL 2 u) (dt:(dk t 2).natAbs=1) (du:(dk u 2).natAbs=1) {i j:Nat} (hi:i<2) (hj:j<2):cngF 2 h t i j=cngF 2 h u i j:=by
 have d0:=xI (by omega) hp mf mg ht hu (by omega) (by omega) (i:=0) (by omega)
 have d1:=xI (by omega) hp mf mg ht hu (by omega) (by omega) (i:=1) (by omega)
 have q: ∀v:Int,v.natAbs=1->v*v=1:=fun v hv=>by
  have:v=1\/v= -1:=by omega
  rcases this with e|e<;>rw[e]<;>rfl
 have e1:=AJ h t
 have e2:=AJ h u
 rw[q _ dt,pJ]at e1
 rw[q _ du,pJ]at e2
 have s1:=(hp.cng (t:=t) (by omega)).1 0 (by omega) 1 (by omega)
 have s2:=(hp.cng (t:=u) (by omega)).1 0 (by omega) 1 (by omega)
 have n1:=(mf.1 0 (by omega)).2
 have n2:=(mg.1 0 (by omega)).2
 rw[Nat.zero_add]at n1 n2
 have off:cngF 2 h t 0 1=cngF 2 h u 0 1:=by
  rw[<- s1]at e1
  rw[<- s2]at e2
  rw[d0,d1]at e1
  generalize cngF 2 h t 0 1=a at*
  generalize cngF 2 h u 0 1=b at*
  have hab:a*a=b*b:=by omega
  rcases Int.lt_or_le a b with hl|hl
  ·have:a*a<b*b:=by
    have h1:a*a<=a*b:=Int.mul_le_mul_of_nonneg_left (by omega) n1
    have h2:a*b<b*b:=Int.mul_lt_mul_of_pos_right hl (by omega)
    omega
   omega
  rcases Int.lt_or_le b a with hl2|hl2
  ·have:b*b<a*a:=by
    have h1:b*b<=b*a:=Int.mul_le_mul_of_nonneg_left (by omega) n2
    have h2:b*a<a*a:=Int.mul_lt_mul_of_pos_right hl2 (by omega)
    omega
   omega
  omega
 have ci:i=0\/i=1:=by omega
 have cj:j=0\/j=1:=by omega
 rcases ci with rfl|rfl<;>rcases cj with rfl|rfl
 ·exact d0
 ·exact off
 ·rw[<- s1,<- s2];exact off
 exact d1
theorem LX {n:Nat} {X:Nat->Int} (h: ∀j,j<n->X j=0):lc fI (dz n X)=aj n [.p (.raw (.int .i64 0))]:=by
 have e:dz n X=aj n 0:=by
  apply List.ext_getElem?
  intro j
  by_cases hj:j<n
  ·rw[cu _ hj,List.getElem?_replicate,if_pos hj,h j hj]
  rw[List.getElem?_eq_none (by rw[dj];omega),List.getElem?_eq_none (by simp;omega)]
 rw[e,lc,List.map_replicate];rfl
/-! awake -/
abbrev yC:List (List Int):=[[2,-1],[-1,3]]
abbrev L5:List (List Int):=[[2,-1],[-1,2]]
abbrev Lv:List (List Int):=[[2,1],[1,3]]
theorem JJ:dO yC=true:=by decide+kernel
def K5:Nat->Nat->Int:=fun a b=>if a=b then(if a=0 then 1 else -1)else 0
theorem Av:yC=dC 2 2 (ent yC):=rfl
theorem GR:Lv=dC 2 2 (cngF 2 (ent yC) K5):=by decide+kernel
theorem vj:iY (ent yC) 2:=by
 have h:=(iQ _).1 JJ
 rw[Av]at h
 have:=((wE (by omega)).1 h).2.2
 exact this
theorem DU:iM (cngF 2 (ent yC) K5) 2:=by
 refine⟨fun i hi=>?_,fun i hi=>?_⟩
 ·obtain rfl:i=0:=by omega
  decide
 rintro⟨c,h1,h2⟩
 match i,hi with
 |0,_=>
  obtain rfl:c=0:=by simpa using h1
  revert h2;decide
 |1,_=>
  have hc:c=0\/c=1\/c=2:=by omega
  rcases hc with rfl|rfl|rfl<;>revert h2<;>decide
theorem K6: ¬yK L5:=fun h=>by
 have:=(h.2.1 0 (by decide)).2
 revert this;decide
theorem GS:yL 2 K5:=⟨fun v i=>if i=0 then v 0 else-v 1,fun v j hj=>by
 have:j=0\/j=1:=by omega
 rcases this with rfl|rfl
 ·simp[mV,dK,K5]
 simp[mV,dK,K5]⟩
theorem LR {R:Nat->Nat->Int} (hR:RchB 2 (ent yC) tw R):dC 2 2 (ia 2 (ent yC) (wA (ia 2 (ent yC) R) R))=Lv:=by
 have hr:=vj
 have h1:InB2 2 (ent yC) 262144 tw:=InB2.one (by omega) (by omega) hr
 obtain⟨e1,e2,e3⟩:=sB hR h1
 have hm:=xK e2 e3
 have one:ox 2 (trF tw):=ox.one.congr fun i j _ _=>by
  show(if j=i then(1:Int)else 0)=if i=j then 1 else 0
  by_cases e:i=j<;>simp[e,eq_comm]
 have hs:=IF (g:=ia 2 (ent yC) R) (Fu hR one)
 have hd:=(e1.sg (ia 2 (ent yC) R)).dt
 rw[vE]at hm⊢
 rw[GR]
 exact i7 fun i j hi hj=>EQ hr.pd hm DU hs.rinv GS hd (by rw[pJ];decide) hi hj
theorem GT:CallG Tryz.prog 0 138 13 [] jW ⟨[],.raw (.bool true)⟩:=by
 obtain⟨R,hR,_⟩:=xL (h:=ent yC) (n:=2) (by omega) (by omega) vj
 have cR:=zA 2 (ent yC) R (by omega) (by omega) vj hR
 have hTl:=cT 2 2 (trF (wA (ia 2 (ent yC) R) R))
 rw[LR hR,<- Av]at cR
 generalize dC 2 2 (trF (wA (ia 2 (ent yC) R) R))=T at*
 have hTi:(T.length:Int)=2:=by omega
 have cS:=Kp Lv Lv
 rw[decide_eq_true rfl]at cS
 have cI:=l4 L5 false (by simp[K6])
 simp only[dx,ls,fR,fI,List.map_cons,List.map_nil]at cR cS cI
 refine iP Tryz.func13 rfl (by kernel_rfl) ?_;rw[Tryz.ntmps13]
 (refine bX [] [] (by simp) fun K hK=>?_;simp(disch:=omega) only[kc,aM,aj,aN,ab];apply hK)
 (refine gp [⟨3,_,_,_,cR,rfl⟩] [] [] (by simp) fun K hK=>?_;simp(disch:=omega) only[kc,LV,io.a,aM,aa,cX,bU,bI,ca,iT,dJ,gU,aN,ab,cellsOf,isPure,Nat.reduceMul,Nat.reduceLeDiff,List.contains_nil,lI,cQ,bv,jP,db,aY,List.find?_cons,bO,cq,CallRes.plain,bV,bW,bs,noRefTV,bf,bQ,bM,cK,aU];apply hK)
 (refine gp [⟨18,_,_,_,cI,rfl⟩] [⟨12,_,_,_,cS⟩] [] (by simp) fun K hK=>?_;simp(disch:=omega) only[kc,bj.a,io.a,aM,aa,ls,fR,fI,aU,aO,aR,aX,aN,ab,aS,cw,bP,be,aZ,bv,List.length_map,hTi,cQ,b7,cX,bU,bI,ca,iT,dJ,gU,cellsOf,isPure,Nat.reduceMul,Nat.reduceLeDiff,List.contains_nil,lI,jP,db,aY,List.find?_cons,bO,cq,CallRes.plain,bV,bW,bs,noRefTV,bf,bQ,bM,Nat.reduceBEq,dM,fD,Bool.not_false];apply hK)
 (refine ib ⟨.inr rfl,rfl,bF rfl ?_ rfl⟩;simp(disch:=omega) only[cH,Tryz.results13,bH,ag])
def KT (M:List (List Int)):Prop:=(1<=M.length/\M.length<=4)/\ ∀r∈M,RwOk M.length r
theorem rR {M:List (List Int)}:tJ M↔KT M/\PD (ent M) M.length:=⟨fun h=>⟨⟨h.1,h.2.1⟩,h.2.2⟩,fun h=>⟨h.1.1,h.1.2,h.2⟩⟩
theorem KT.entB {M:List (List Int)} (h:KT M) {i j:Nat} (hi:i<M.length) (hj:j<M.length): -1125899906842624<=ent M i j/\ent M i j<=1125899906842624:=by
 have hr:=h.2 M[i] (List.getElem_mem hi)
 have e:ent M i j=M[i][j]'(by rw[hr.1];exact hj):=by
  unfold ent
  simp[List.getD,hi,hr.1,hj]
 rw[e]
 exact hr.2 _ (List.getElem_mem _)
theorem zL {f:Nat->Nat->Int} {n:Nat}:PD f n↔SymF f n/\BZ f n:=
 ⟨fun h=>⟨h.1,fun k hk=>by rw[AN h.2 k hk];exact h.2 k hk⟩,fun h=>⟨h.1,fun k hk=>(Fj h.2 k hk).1⟩⟩
theorem sA (M:List (List Int)) (r:Bool) (hr:r=true↔KT M):CallC Tryz.prog 37 [dx M] ⟨[],.raw (.bool r)⟩:=by
 by_cases hlen:1<=M.length/\M.length<=4
 ·refine bG Tryz.func37 rfl (by kernel_rfl) ?_;rw[Tryz.ntmps37]
  (refine aL [] fun K hK=>?_;simp(disch:=omega) only[kc,aM,dx,aj,aN,ab];apply hK)
  (refine aP (aL [] fun K hK=>?_);simp(disch:=omega) only[kc,aM,aa,be,aZ,bv,bE,aU,aO,aR,aX,aN,ab,aS,cp,bP,cQ,b7];apply hK)
  refine bL rfl (bi ?_)
  show da _ _ _ _
  (refine aP (aL [] fun K hK=>?_);simp(disch:=omega) only[kc,aM,aa,be,aZ,bv,bE,aN,ab];apply hK)
  refine cC (G:=LY M) (fun g=>⟨[dx M,jk,.raw (.bool false),jk,jk,jk,jk,jk,jk,jk,jk,jk,jk,jk,jk,dx M,.raw (.int .i64 (M.length:Int)),.raw (.int .i64 (g.i:Int)),jk,jk,jk,jk,jk,jk,jk,jk,jk,jk,jk,jk,jk,jk,jk,jk,jk,jk,jk,jk,jk,jk],Hm []⟩) (fun g=>M.length-g.i) ⟨0,by omega,fun a ha=>by omega⟩ ?_ ?_
  ·refine aT trivial ?_
   simp[di,b9,b8]
  rintro⟨i,hi,ok⟩
  simp only
  by_cases hm:i<M.length
  ·obtain⟨q,hq⟩: ∃q,M[i]?=some q:=⟨M[i],List.getElem?_eq_getElem hm⟩
   have hqm:=uI hq
   (refine aL [] fun K hK=>?_;simp(disch:=omega) only[kc,aM,dx,Hm,aU,aO,aR,aX,aS,cw];apply hK)
   refine aP (bJ rfl (bi ?_))
   refine aP (bA ?_)
   (refine aL [] fun K hK=>?_;simp(disch:=omega) only[kc,aM,aa,aQ,aZ,aW,bv,ch,hq,fR,db,packT,dc];apply hK)
   by_cases hql:q.length=M.length
   ·(refine aP (aL [] fun K hK=>?_);simp(disch:=omega) only[kc,aM,aa,be,aZ,ca,bE,hql,bv,aU,aO,aR,aX,aS,cw];apply hK)
    refine bL rfl (bi ?_)
    show da _ _ _ _
    (refine aL [] fun K hK=>?_;simp(disch:=omega) only[kc,aM,aa,be,aZ,ca,bE,hql,aN,ab];apply hK)
    refine cC (G:=LZ q) (fun g=>⟨[dx M,jk,.raw (.bool false),jk,.one (.p (.sl (ls fI q))),jk,jk,jk,jk,jk,jk,jk,jk,jk,jk,dx M,.raw (.int .i64 (M.length:Int)),.raw (.int .i64 (i:Int)),jk,jk,jk,jk,jk,jk,jk,jk,.one (.p (.sl (ls fI q))),.raw (.int .i64 (M.length:Int)),.raw (.int .i64 (g.j:Int)),jk,jk,jk,jk,jk,jk,jk,jk,jk,jk,jk],Hm []⟩) (fun g=>q.length-g.j) ⟨0,by omega,fun a ha=>by omega⟩ ?_ ?_
    ·refine aT trivial ?_
     simp[di,b9,b8]
    rintro⟨j,hj,okj⟩
    simp only
    by_cases hm2:j<q.length
    ·obtain⟨x,hx⟩: ∃x,q[j]?=some x:=⟨q[j],List.getElem?_eq_getElem hm2⟩
     (refine aL [] fun K hK=>?_;simp(disch:=omega) only[kc,aM,dx,Hm,aU,aO,aR,aX,aS,cw];apply hK)
     refine aP (bJ rfl (bi ?_))
     refine aP (bA ?_)
     (refine aL [] fun K hK=>?_;simp(disch:=omega) only[kc,aM,aa,aQ,aZ,aW,ca,ch,hx,fI,dJ,packT,et];apply hK)
     by_cases hlo:x< -1125899906842624
     ·have hr0:r=false:=by
       cases r with
       |false=>rfl
       |true=>have:=((hr.1 rfl).2 q hqm).2 x (List.mem_of_getElem? hx);omega
      subst hr0
      (refine aL [] fun K hK=>?_;simp(disch:=omega) only[kc,aM,aa,aU,aO,aR,aX,aN,ab,aS,cw,bP,reduceCtorEq,cQ,Option.map_none,b7];apply hK)
      refine bJ rfl ?_
      (refine aL [] fun K hK=>?_;simp(disch:=omega) only[kc,aM,aN,ab];apply hK)
      (refine bC ⟨.inr rfl,bF rfl ?_ rfl⟩;simp(disch:=omega) only[cH,Tryz.results37,bH,ah,ag])
     by_cases hhi:1125899906842624<x
     ·have hr0:r=false:=by
       cases r with
       |false=>rfl
       |true=>have:=((hr.1 rfl).2 q hqm).2 x (List.mem_of_getElem? hx);omega
      subst hr0
      (refine aL [] fun K hK=>?_;simp(disch:=omega) only[kc,aM,aa,aU,aO,aR,aX,aN,ab,aS,cp,bP,cQ,cw,b7];apply hK)
      refine bJ rfl ?_
      (refine aL [] fun K hK=>?_;simp(disch:=omega) only[kc,aM,aN,ab];apply hK)
      (refine bC ⟨.inr rfl,bF rfl ?_ rfl⟩;simp(disch:=omega) only[cH,Tryz.results37,bH,ah,ag])
     (refine aL [] fun K hK=>?_;simp(disch:=omega) only[kc,aM,aa,aU,aO,aR,aX,aN,ab,aS,cp,bP,cQ,b7];apply hK)
     refine bL rfl (bi ?_)
     show da _ _ _ _
     ((refine bK [] [] (by simp) fun K hK=>?_);simp(disch:=omega) only[kc,aM,aU,aO,aR,aX,aN,ab,aS,cd];apply hK)
     refine⟨⟨j+1,by omega,fun b hb y hy=>?_⟩,by simp only;omega,aT trivial ?_⟩
     ·by_cases e:b=j
      ·subst e
       rw[hx]at hy
       injection hy with hy
       omega
      exact okj b (by omega) y hy
     simp[di,b9,b8]
    (refine aL [] fun K hK=>?_;simp(disch:=omega) only[kc,aM,dx,Hm,aU,aO,aR,aX,aS,cp];apply hK)
    refine aP (bL rfl (ck ?_))
    show da _ _ _ _
    ((refine bK [] [] (by simp) fun K hK=>?_);simp(disch:=omega) only[kc,aM,aU,aO,aR,aX,aN,ab,aS,cd];apply hK)
    refine⟨⟨i+1,by omega,fun a ha q' hq'=>?_⟩,by simp only;omega,aT trivial ?_⟩
    ·by_cases e:a=i
     ·subst e
      rw[hq]at hq'
      injection hq' with hq'
      subst hq'
      refine⟨hql,fun x hx=>?_⟩
      obtain⟨b,hb⟩:=List.mem_iff_getElem?.1 hx
      exact okj b (by have:=(List.getElem?_eq_some_iff.1 hb).1;omega) x hb
     exact ok a (by omega) q' hq'
    simp[di,b9,b8]
   have hr0:r=false:=by
    cases r with
    |false=>rfl
    |true=>exact absurd ((hr.1 rfl).2 q hqm).1 hql
   subst hr0
   (refine aP (aL [] fun K hK=>?_);simp(disch:=omega) only[kc,aM,aa,be,aZ,ca,bE,bv,aU,aO,aR,aX,aS,cp,Bool.not_false];apply hK)
   refine bJ rfl ?_
   (refine aL [] fun K hK=>?_;simp(disch:=omega) only[kc,aM,aN,ab];apply hK)
   (refine bC ⟨.inr rfl,bF rfl ?_ rfl⟩;simp(disch:=omega) only[cH,Tryz.results37,bH,ah,ag])
  have hall: ∀q∈M,RwOk M.length q:=fun q hq=>by
   obtain⟨a,ha⟩:=List.mem_iff_getElem?.1 hq
   exact ok a (by have:=(List.getElem?_eq_some_iff.1 ha).1;omega) q ha
  have hr1:r=true:=hr.2 ⟨hlen,hall⟩
  subst hr1
  (refine aL [] fun K hK=>?_;simp(disch:=omega) only[kc,aM,dx,Hm,aU,aO,aR,aX,aS,cp];apply hK)
  refine aP (bL rfl (ck ?_))
  show da _ _ _ _
  (refine aL [] fun K hK=>?_;simp(disch:=omega) only[kc,aM,aN,ab];apply hK)
  (refine bC ⟨.inr rfl,bF rfl ?_ rfl⟩;simp(disch:=omega) only[cH,Tryz.results37,bH,ah,ag])
 have hr0:r=false:=by
  cases r with
  |false=>rfl
  |true=>exact absurd (hr.1 rfl).1 hlen
 subst hr0
 by_cases h1:M.length<1
 ·refine bG Tryz.func37 rfl (by kernel_rfl) ?_;rw[Tryz.ntmps37]
  (refine aL [] fun K hK=>?_;simp(disch:=omega) only[kc,aM,dx,aj,aN,ab];apply hK)
  (refine aP (aL [] fun K hK=>?_);simp(disch:=omega) only[kc,aM,aa,be,aZ,bv,bE,aU,aO,aR,aX,aN,ab,aS,cw,bP,reduceCtorEq,Option.map_none,cQ,b7];apply hK)
  refine bJ rfl ?_
  (refine aL [] fun K hK=>?_;simp(disch:=omega) only[kc,aM,aN,ab];apply hK)
  (refine bC ⟨.inr rfl,bF rfl ?_ rfl⟩;simp(disch:=omega) only[cH,Tryz.results37,bH,ah,ag])
 refine bG Tryz.func37 rfl (by kernel_rfl) ?_;rw[Tryz.ntmps37]
 (refine aL [] fun K hK=>?_;simp(disch:=omega) only[kc,aM,dx,aj,aN,ab];apply hK)
 (refine aP (aL [] fun K hK=>?_);simp(disch:=omega) only[kc,aM,aa,be,aZ,bv,bE,aU,aO,aR,aX,aN,ab,aS,cp,bP,cQ,cw,b7];apply hK)
 refine bJ rfl ?_
 (refine aL [] fun K hK=>?_;simp(disch:=omega) only[kc,aM,aN,ab];apply hK)
 (refine bC ⟨.inr rfl,bF rfl ?_ rfl⟩;simp(disch:=omega) only[cH,Tryz.results37,bH,ah,ag])
/-! The cq of a row of small coefficients. -/
theorem Im (n:Nat) (f:Nat->Nat->Int) (c:Nat->Int) (hn1:1<=n) (hn:n<=4) (hf: ∀i j,i<n->j<n-> -1125899906842624<=f i j/\f i j<=1125899906842624) (hc: ∀j,-1<=c j/\c j<=1):
  CallC Tryz.prog 82 [dx (dC n n f),mp (dz n c)] ⟨[],.raw (.int .i64 (nrm n f c))⟩:=by
 have hcl:=dj n c
 refine bG Tryz.func82 rfl (by kernel_rfl) ?_;rw[Tryz.ntmps82]
 (refine aL [] fun K hK=>?_;simp(disch:=omega) only[kc,aM,dx,mp,aa,aj,aN,ab];apply hK)
 (refine aL [] fun K hK=>?_;simp(disch:=omega) only[kc,aM,aN,ab];apply hK)
 (refine aP (aL [] fun K hK=>?_);simp(disch:=omega) only[kc,aM,aa,be,aZ,ca,bE,hcl,aN,ab];apply hK)
 refine cC (G:=ov n) (fun g=>⟨[dx (dC n n f),mp (dz n c),jk,jk,jk,.raw (.int .i64 (nS n f c g.i 0)),jk,jk,jk,.raw (.int .i64 (n:Int)),.raw (.int .i64 (g.i:Int)),jk,jk,jk,jk,jk,jk,jk,jk,jk,jk,jk,jk,jk,jk,jk,jk,jk,jk,jk,jk,jk,jk,jk,jk,jk,jk,jk,jk,jk],Hm []⟩) (fun g=>n-g.i) ⟨0,by omega⟩ ?_ ?_
 ·refine aT trivial ?_
  simp[di,b9,b8,nS,dK]
 rintro⟨i,hi⟩
 simp only
 by_cases hm:i<n
 ·have hr:=dm n f hm
  have hci:=cu c hm
  (refine aL [] fun K hK=>?_;simp(disch:=omega) only[kc,aM,dx,mp,Hm,aU,aO,aR,aX,aS,cw];apply hK)
  refine aP (bJ rfl (bi ?_))
  refine aP (bA ?_)
  (refine aL [] fun K hK=>?_;simp(disch:=omega) only[kc,aM];apply hK)
  (refine aL [] fun K hK=>?_;simp(disch:=omega) only[kc,aM,aa,be,aZ,ca,bE,hcl,aN,ab];apply hK)
  refine cC (G:=ov n) (fun g=>⟨[dx (dC n n f),mp (dz n c),jk,jk,jk,.raw (.int .i64 (nS n f c i g.i)),.raw (.int .i64 (i:Int)),jk,jk,.raw (.int .i64 (n:Int)),.raw (.int .i64 (i:Int)),jk,jk,jk,.raw (.int .i64 (n:Int)),.raw (.int .i64 (g.i:Int)),jk,jk,jk,jk,jk,jk,jk,jk,jk,jk,jk,jk,jk,jk,jk,jk,jk,jk,jk,jk,jk,jk,jk,jk],Hm []⟩) (fun g=>n-g.i) ⟨0,by omega⟩ ?_ ?_
  ·refine aT trivial ?_
   simp[di,b9,b8]
  rintro⟨j,hj⟩
  simp only
  by_cases hjn:j<n
  ·have hg:=cu (f i) hjn
   have hcj:=cu c hjn
   have b1:=hf i j hm hjn
   have b2:=j9 (hc i) b1
   have b3:=j9 (hc j) b2
   have b4:=Bl hf hc hm hj
   have b5:=Bl hf hc hm (j:=j+1) (by omega)
   have b6:=j9 (hc j) (show -1<=c i/\c i<=1 from hc i)
   have e1:IntKind.i64.wrap (c i*c j)=c i*c j:=cd (by omega) (by omega)
   have e0:c i*c j*f i j=f i j*c i*c j:=by grind
   have e2:IntKind.i64.wrap (c i*c j*f i j)=f i j*c i*c j:=by rw[e0];exact cd (by omega) (by omega)
   have e4:nS n f c i j+f i j*c i*c j=nS n f c i (j+1):=by
    unfold nS
    rw[dK,show H4 f c i j=f i j*c i*c j from rfl,Int.add_assoc]
   have hb:((i:Int)+1)*((n:Int)*1125899906842624)<=18014398509481984:=by
    have:((i:Int)+1)*((n:Int)*1125899906842624)<=4*((n:Int)*1125899906842624):=Int.mul_le_mul_of_nonneg_right (by omega) (by omega)
    omega
   have e3:IntKind.i64.wrap (nS n f c i (j+1))=nS n f c i (j+1):=cd (by omega) (by omega)
   (refine aL [] fun K hK=>?_;simp(disch:=omega) only[kc,aM,dx,mp,Hm,aU,aO,aR,aX,aS,cw];apply hK)
   refine aP (bJ rfl (bi ?_))
   refine aP (bA ?_)
   (refine aL [] fun K hK=>?_;simp(disch:=omega) only[kc,aM];apply hK)
   ((refine gP cJ [] [] (by kernel_rfl) (by simp) fun K hK=>?_);simp(disch:=omega) only[kc,aM,aa,aQ,aZ,aW,ca,ch,hci,fI,dJ,packT,et,hcj,aU,aO,aR,aX,aS,e1,bv,hr,fR,db,dc,hg,e2,e4,e3];apply hK)
   show da _ _ _ _
   ((refine bK [] [] (by simp) fun K hK=>?_);simp(disch:=omega) only[kc,aM,aU,aO,aR,aX,aN,ab,aS,cd];apply hK)
   refine⟨⟨j+1,by omega⟩,by simp only;omega,aT trivial ?_⟩
   simp[di,b9,b8]
  have hjn:j=n:=by omega
  subst hjn
  (refine aL [] fun K hK=>?_;simp(disch:=omega) only[kc,aM,dx,mp,Hm,aU,aO,aR,aX,aS,cp];apply hK)
  refine aP (bL rfl (ck ?_))
  show da _ _ _ _
  ((refine bK [] [] (by simp) fun K hK=>?_);simp(disch:=omega) only[kc,aM,aU,aO,aR,aX,aN,ab,aS,cd];apply hK)
  refine⟨⟨i+1,by omega⟩,by simp only;omega,aT trivial ?_⟩
  rw[EW]
  simp[di,b9,b8]
 have hin:i=n:=by omega
 subst hin
 (refine aL [] fun K hK=>?_;simp(disch:=omega) only[kc,aM,dx,mp,Hm,aU,aO,aR,aX,aS,cp];apply hK)
 refine aP (bL rfl (ck ?_))
 show da _ _ _ _
 rw[EV]
 (refine aL [] fun K hK=>?_;simp(disch:=omega) only[kc,aM];apply hK)
 (refine bC ⟨.inr rfl,bF rfl ?_ rfl⟩;simp(disch:=omega) only[cH,Tryz.results82,bH,ah,ag])
/-! The next list of coefficients. -/
theorem CI {c j:Nat} (h:c%3^j=3^j-1):c+1=3^j*(c/3^j+1):=by
 have h1:=Nat.div_add_mod c (3^j)
 have h2:0<3^j:=Nat.pow_pos (by omega)
 rw[Nat.mul_add,Nat.mul_one]
 omega
theorem Hf {c j:Nat} (h:c%3^j=3^j-1) (hd:dg c j<1) (b:Nat):dg (c+1) b=if b<j then -1 else if b=j then dg c j+1 else dg c b:=by
 have hs:=CI h
 have hp: ∀k,0<3^k:=fun k=>Nat.pow_pos (by omega)
 have hd2:c/3^j%3<2:=by unfold dg at hd;omega
 unfold dg
 split
 ·rename_i hb
  obtain⟨m,rfl⟩: ∃m,j=b+1+m:=⟨j-b-1,by omega⟩
  rw[hs,Nat.pow_add,Nat.pow_succ,show 3^b*3*3^m*(c/(3^b*3*3^m)+1)=3^b*(3*(3^m*(c/(3^b*3*3^m)+1))) by grind,Nat.mul_div_cancel_left _ (hp b),Nat.mul_mod_right];rfl
 split
 ·rename_i hb
  subst hb
  rw[hs,Nat.mul_div_cancel_left _ (hp b)]
  omega
 rename_i hb1 hb2
 obtain⟨m,rfl⟩: ∃m,b=j+1+m:=⟨b-j-1,by omega⟩
 have e1: ∀x,x/3^(j+1+m)=x/3^j/3/3^m:=fun x=>by rw[Nat.pow_add,Nat.pow_succ,<- Nat.div_div_eq_div_mul,<- Nat.div_div_eq_div_mul]
 rw[e1,e1,hs,Nat.mul_div_cancel_left _ (hp j),show(c/3^j+1)/3=c/3^j/3 by omega]
theorem EL {c j:Nat} (h:c%3^j=3^j-1) (hd: ¬dg c j<1):c%3^(j+1)=3^(j+1)-1:=by
 have hd2:c/3^j%3=2:=by
  have:=Nat.mod_lt (c/3^j) (show 0<3 by omega)
  unfold dg at hd;omega
 have h2:0<3^j:=Nat.pow_pos (by omega)
 rw[Nat.pow_succ,Nat.mod_mul,h,hd2]
 omega
def KO (i c:Nat):Nat->Int:=if c+1<3^i then cnd i (c+1)else fun b=>if b<i then -1 else cnd i c b
def zJ (i c j:Nat):Nat->Int:=fun b=>if b<j then -1 else cnd i c b
theorem E8 (i c:Nat):zJ i c 0=cnd i c:=by funext b;unfold zJ;rw[if_neg (by omega)]
theorem Ki {i c j:Nat} (hj:j<i):zJ i c j j=dg c j:=by unfold zJ cnd;rw[if_neg (by omega),if_pos hj]
theorem E7 (i c j:Nat):(fun b=>if b=j then -1 else zJ i c j b)=zJ i c (j+1):=by
 funext b
 unfold zJ
 by_cases h:b=j
 ·subst h;rw[if_pos rfl,if_pos (by omega)]
 by_cases h2:b<j
 ·rw[if_neg h,if_pos h2,if_pos (by omega)]
 rw[if_neg h,if_neg h2,if_neg (by omega)]
theorem Ic {i c j:Nat} (h:c%3^j=3^j-1) (hd:dg c j<1) (hj:j<i):(fun b=>if b=j then dg c j+1 else zJ i c j b)=cnd i (c+1):=by
 funext b
 have:=Hf h hd b
 unfold zJ cnd
 by_cases h1:b<i
 ·rw[if_pos h1,if_pos h1,this]
  by_cases h2:b<j
  ·rw[if_neg (by omega),if_pos h2,if_pos h2]
  rw[if_neg h2,if_neg h2]
 rw[if_neg h1,if_neg h1,if_neg (by omega),if_neg (by omega)]
theorem Gb {c i:Nat} (h:c%3^i=3^i-1) (hc:c<3^i): ¬c+1<3^i:=by
 rw[Nat.mod_eq_of_lt hc]at h
 have h2:0<3^i:=Nat.pow_pos (by omega)
 omega
theorem Ez {c i j:Nat} (hj:j<i) (hc:c<3^i) (hd:dg c j<1):c+1<3^i:=by
 refine Nat.lt_of_not_le fun hle=>?_
 have e:c+1=3^i:=by omega
 obtain⟨m,rfl⟩: ∃m,i=j+1+m:=⟨i-j-1,by omega⟩
 have hp:0<3^j:=Nat.pow_pos (by omega)
 have hp2:0<3^m:=Nat.pow_pos (by omega)
 have e2:c=3^j*(3*3^m-1)+(3^j-1):=by
  have:3^(j+1+m)=3^j*(3*3^m):=by rw[Nat.pow_add,Nat.pow_succ,Nat.mul_assoc]
  obtain⟨z,hz⟩: ∃z,3*3^m=z+1:=⟨3*3^m-1,by omega⟩
  rw[this,hz]at e
  rw[hz,Nat.add_sub_cancel]
  rw[Nat.mul_add,Nat.mul_one]at e
  omega
 have e3:c/3^j=3*3^m-1:=by
  rw[e2,Nat.mul_add_div hp,Nat.div_eq_of_lt (by omega),Nat.add_zero]
 unfold dg at hd
 rw[e3]at hd
 omega
structure Mf (i c:Nat) where
 j:Nat
 hj:j<=i
 lo:c%3^j=3^j-1
theorem Il (n i c:Nat) (h0:0<i) (hi:i<n) (hn:n<=4) (hc:c<3^i):
  oA Tryz.prog 81 [.undef] 0 0 i ⟨2,1,lc fI (dz n (cnd i c))⟩ ⟨2,1,lc fI (dz n (KO i c))⟩ (.raw (.bool (decide (c+1<3^i)))):=by
 refine oJ Tryz.func81 rfl (by kernel_rfl) (by simp) h0 (by simp[lc,dj];omega) (fc _ _) rfl (by simp[lc,dj]) (fc _ _) rfl ?_
 rw[Tryz.ntmps81]
 (refine cn [] [] (by kernel_rfl) (by simp) fun K hK=>?_;simp(disch:=omega) only[kc,aM,aj,aN,ab];apply hK)
 (refine dw (cn [] [] (by kernel_rfl) (by simp) fun K hK=>?_);simp(disch:=omega) only[kc,aM,aa,be,aZ,ca,aN,ab];apply hK)
 refine iB (G:=Mf i c) (fun g=>⟨[.one (.sl 0 0 0 i),jk,jk,jk,.one (.sl 0 0 0 i),.raw (.int .i64 (i:Int)),.raw (.int .i64 (g.j:Int)),jk,jk,jk,jk,jk,jk,jk,jk,jk,jk,jk,jk,jk,jk,jk,jk,jk],Hm [(0,[⟨2,1,lc fI (dz n (zJ i c g.j))⟩])]⟩) (fun g=>i-g.j) ⟨0,by omega,by simp;omega⟩ ?_ ?_
 ·refine aT ⟨?_,trivial⟩ ?_
  ·simp[E8,famH]
  simp[di,b9,b8]
 rintro⟨j,hj,lo⟩
 simp only
 by_cases hm:j<i
 ·have g1:=cu (m:=n) (zJ i c j) (j:=j) (by omega)
  rw[Ki hm]at g1
  have hb:=AK c j
  by_cases hd:dg c j<1
  ·have hlt:=Ez hm hc hd
   have e1:IntKind.i64.wrap (dg c j+1)=dg c j+1:=cd (by omega) (by omega)
   have s1:=oQ n j (zJ i c j) (dg c j+1)
   rw[Ic lo hd hm]at s1
   have eR:KO i c=cnd i (c+1):=if_pos hlt
   rw[decide_eq_true hlt,eR]
   generalize dg c j=d at*
   generalize cnd i (c+1)=X at*
   (refine cn [] [] (by kernel_rfl) (by simp) fun K hK=>?_;simp(disch:=omega) only[kc,aM,Hm,aU,aO,aR,aX,aS,cw];apply hK)
   refine dw (iq rfl (fC ?_))
   refine dw (f7 ?_)
   (refine cn [] [] (by kernel_rfl) (by simp) fun K hK=>?_;simp(disch:=omega) only[kc,aM];apply hK)
   (refine dw (cn [] [] (by kernel_rfl) (by simp) fun K hK=>?_);simp(disch:=omega) only[kc,aM,aa,aQ,aZ,aW,ca,dJ,cQ,dp,fI,g1,packT,et,aU,aO,aR,aX,aN,ab,aS,cw];apply hK)
   refine iq rfl ?_
   (refine cn [] [] (by kernel_rfl) (by simp) fun K hK=>?_;simp(disch:=omega) only[kc,aM,aa,aQ,aZ,aW,ca,dJ,cQ,dp,fI,g1,packT,et,aU,aO,aR,aX,aN,ab,aS,e1,bo,ew,cU,cellsOf,ai,isPure,bu,s1,bz,bx];apply hK)
   refine gZ.weak (aT (tm:=[.one (.sl 0 0 0 i),jk,jk,jk,jk,jk,jk,jk,jk,jk,jk,jk,jk,jk,jk,jk,jk,jk,jk,jk,jk,jk,jk,jk]) (l:=[(0,[⟨2,1,lc fI (dz n X)⟩])]) ⟨rfl,trivial⟩ (by simp[di,b9,b8])) ?_
   (refine cn [] [] (by kernel_rfl) (by simp) fun K hK=>?_;simp(disch:=omega) only[kc,aM,Hm,aN,ab];apply hK)
   refine m7 ⟨.inr rfl,_,eg.refl _,rfl,lV _,?_⟩
   simp(disch:=omega) only[cH,Tryz.results81,bH,ah,ag]
  have s1:=oQ n j (zJ i c j) (-1)
  rw[E7]at s1
  (refine cn [] [] (by kernel_rfl) (by simp) fun K hK=>?_;simp(disch:=omega) only[kc,aM,Hm,aU,aO,aR,aX,aS,cw];apply hK)
  refine dw (iq rfl (fC ?_))
  refine dw (f7 ?_)
  (refine cn [] [] (by kernel_rfl) (by simp) fun K hK=>?_;simp(disch:=omega) only[kc,aM];apply hK)
  (refine dw (cn [] [] (by kernel_rfl) (by simp) fun K hK=>?_);simp(disch:=omega) only[kc,aM,aa,aQ,aZ,aW,ca,dJ,cQ,dp,fI,g1,packT,et,aU,aO,aR,aX,aN,ab,aS,cp];apply hK)
  refine gV rfl (fC ?_)
  show gZ _ _ _ _ _
  ((refine fB [] [] (by kernel_rfl) (by simp) fun K hK=>?_);simp(disch:=omega) only[kc,aM,aa,aQ,aZ,aW,ca,dJ,cQ,bo,ew,cU,dp,fI,g1,aN,ab,cellsOf,ai,isPure,bu,s1,bz,bx];apply hK)
  show gZ _ _ _ _ _
  ((refine fB [] [] (by kernel_rfl) (by simp) fun K hK=>?_);simp(disch:=omega) only[kc,aM,aU,aO,aR,aX,aN,ab,aS,cd];apply hK)
  refine⟨⟨j+1,by omega,EL lo hd⟩,by simp only;omega,aT ⟨rfl,trivial⟩ ?_⟩
  simp[di,b9,b8]
 have hji:j=i:=by omega
 subst hji
 have hnlt:=Gb lo hc
 have eR:KO j c=zJ j c j:=if_neg hnlt
 rw[decide_eq_false hnlt,eR]
 generalize zJ j c j=X at*
 (refine cn [] [] (by kernel_rfl) (by simp) fun K hK=>?_;simp(disch:=omega) only[kc,aM,Hm,aU,aO,aR,aX,aS,cp];apply hK)
 refine dw (gV rfl (gf ?_))
 show gZ _ _ _ _ _
 (refine cn [] [] (by kernel_rfl) (by simp) fun K hK=>?_;simp(disch:=omega) only[kc,aM,aN,ab];apply hK)
 refine m7 ⟨.inr rfl,_,eg.refl _,rfl,lV _,?_⟩
 simp(disch:=omega) only[cH,Tryz.results81,bH,ah,ag]
theorem C7:CallC Tryz.prog 81 [.one (.p (.sl []))] ⟨[],.raw (.bool false)⟩:=by
 refine bG Tryz.func81 rfl (by kernel_rfl) ?_;rw[Tryz.ntmps81]
 (refine aL [] fun K hK=>?_;simp(disch:=omega) only[kc,aM,aj,aN,ab];apply hK)
 (refine aP (aL [] fun K hK=>?_);simp(disch:=omega) only[kc,aM,aa,be,aZ,ca,aN,ab];apply hK)
 refine cC (G:=Unit) (fun g=>⟨[jk,jk,jk,jk,jk,.raw (.int .i64 0),.raw (.int .i64 0),jk,jk,jk,jk,jk,jk,jk,jk,jk,jk,jk,jk,jk,jk,jk,jk,jk],Hm []⟩) (fun g=>0) () ?_ ?_
 ·refine aT trivial ?_
  simp[di,b9,b8]
 intro _
 (refine aL [] fun K hK=>?_;simp(disch:=omega) only[kc,aM,Hm,aU,aO,aR,aX,aS,cp];apply hK)
 refine aP (bL rfl (ck ?_))
 show da _ _ _ _
 (refine aL [] fun K hK=>?_;simp(disch:=omega) only[kc,aM,aN,ab];apply hK)
 (refine bC ⟨.inr rfl,bF rfl ?_ rfl⟩;simp(disch:=omega) only[cH,Tryz.results81,bH,ah,ag])
end Go.Proofs.YtfgeomlagfomgaaGreatDoor
