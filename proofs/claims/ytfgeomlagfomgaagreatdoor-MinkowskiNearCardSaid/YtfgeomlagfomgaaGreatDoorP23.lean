/-
  Part 24 of a proof (walks and plain facts).
-/
import Derived.Test.YtfgeomlagfomgaaGreatDoorP22
set_option linter.all false
set_option maxRecDepth 100000
set_option maxHeartbeats 64000000
open Nat renaming reduceAdd → aa
open Nat renaming le_refl → ac
open List renaming replicate → ae
namespace Go.Proofs.YtfgeomlagfomgaaGreatDoor
open Go.RowKit
section
variable {n:Nat}
theorem K0 {h t:FF} {i:Nat} {c:Nat->Int} (hi:i<n) (hl:nrm n (cngF n h t) c<cngF n h t i i):De n (cngF n h (cT t i (mV n t c)))<De n (cngF n h t):=by
 refine Cq hi (fun a _ hne=>by rw[rc _ hne hne]) ?_;rw[yS];exact Int.mul_lt_mul_of_pos_left hl (by omega)
theorem xk (h t:FF) (i a b:Nat):cngF n h (opC n t (.neg i)) a b=(if a=i then -1 else 1)*(if b=i then -1 else 1)*cngF n h t a b:=by
 have e: ∀c,(fun r=>opC n t (.neg i) r c)=if c=i then fun r=> - t r i else fun r=>t r c:=fun c=>by
  by_cases e1:c=i
  ·subst e1;funext r;simp[opC,cT]
  funext r;simp[opC,cT,e1]
 rw[dx,e,e,dx];by_cases ha:a=i
 ·subst ha;by_cases hb:b=a
  ·subst hb;simp only[if_true];rw[rI,wN];omega
  simp only[if_true,if_neg hb];rw[rI];omega
 by_cases hb:b=i
 ·subst hb;simp only[if_true,if_neg ha];rw[wN];omega
 simp only[if_neg ha,if_neg hb];omega
theorem KZ (h t:FF) (i:Nat):De n (cngF n h (opC n t (.neg i)))=De n (cngF n h t):=by
 unfold De;refine aS n fun a _=>?_
 rw[xk]
 congr 1
 split<;>omega
def zE (n:Nat) (A:FF) (a:Nat):Int:=if 0<a/\A (a-1) a<0 then((2^(n-a):Nat):Int)else 0
theorem It (A:FF) (a:Nat):0<=zE n A a/\zE n A a<=((2^(n-a):Nat):Int):=by
 unfold zE;generalize 2^(n-a)=q;split<;>omega
theorem Lv {h t:FF} {i:Nat} (h0:0<i) (hi:i<n) (hl:cngF n h t (i-1) i<0):Py n (cngF n h (opC n t (.neg i)))<Py n (cngF n h t):=by
 generalize hA:cngF n h t=A at*
 generalize hA':cngF n h (opC n t (.neg i))=A';have e: ∀a b,A' a b=(if a=i then -1 else 1)*(if b=i then -1 else 1)*A a b:=fun a b=>by rw[<- hA',<- hA];exact xk h t i a b
 show bP (zE n A') n<bP (zE n A) n;have e1:zE n A' i=0:=by
  unfold zE;rw[if_neg];rintro⟨_,g⟩;rw[e,if_neg (by omega),if_pos rfl]at g;omega
 have e2:zE n A i=((2^(n-i):Nat):Int):=if_pos ⟨h0,hl⟩;have e3: ∀a,a≠i->a≠i+1->zE n A' a=zE n A a:=fun a h1 h2=>by
  unfold zE;by_cases ha:0<a
  ·have e4:A' (a-1) a=A (a-1) a:=by
    rw[e,if_neg (show ¬a-1=i by omega),if_neg h1];omega
   rw[e4]
  rw[if_neg (fun g=>ha g.1),if_neg (fun g=>ha g.1)]
 have c1:=nT (F:=zE n A) (G:=fun a=>if a=i then 0 else zE n A a) hi (fun a _ hne=>by simp[hne]);simp only[if_true]at c1;rw[e2]at c1;have hpow:2^(n-i)=2*2^(n-(i+1)):=by
  rw[show n-i=(n-(i+1))+1 by omega,Nat.pow_succ];omega
 have hpos:0<2^(n-(i+1)):=Nat.pow_pos (by omega);rw[hpow]at c1;by_cases h2:i+1<n
 ·have c2:=nT (F:=fun a=>if a=i then 0 else zE n A a) (G:=zE n A') h2 (fun a _ hne=>by
   by_cases ha:a=i
   ·subst ha;rw[if_pos rfl,e1]
   rw[if_neg ha,e3 a ha hne])
  rw[if_neg (by omega)]at c2;have b1:=It (n:=n) A (i+1);have b2:=It (n:=n) A' (i+1);generalize 2^(n-(i+1))=q at*
  omega
 have c2:bP (zE n A') n=bP (fun a=>if a=i then 0 else zE n A a) n:=aS n fun a ha=>by
  by_cases hai:a=i
  ·subst hai;rw[if_pos rfl,e1]
  rw[if_neg hai,e3 a hai (by omega)]
 generalize 2^(n-(i+1))=q at*
 omega
theorem jv {a:FF}: ∀m i op,scanR n a m i=some op->i<=op.i/\op.i<i+m/\(match op with
  | .swp j=>0<j/\a j j<a (j-1) (j-1)
  | .rep j c=>c<3^j/\nrm n a (cnd j c)<a j j
  | .neg j=>0<j/\a (j-1) j<0)
 |0,_,_,h=>by cases h
 |m+1,i,op,h=>by
  rw[scanR]at h;split at h
  ·rename_i hc;injection h with h
   subst h;exact⟨ac _,by show i<i+(m+1);omega,hc⟩
  split at h
  ·rename_i c hc;injection h with h
   subst h;obtain⟨_,h1,h2⟩:=tg _ _ _ hc;exact⟨ac _,by show i<i+(m+1);omega,by omega,h2⟩
  split at h
  ·rename_i hc;injection h with h
   subst h;exact⟨ac _,by show i<i+(m+1);omega,hc⟩
  obtain⟨h1,h2,h3⟩:=jv m (i+1) op h;exact⟨by omega,by omega,h3⟩
theorem uD {a:FF}: ∀m i,scanR n a m i=none-> ∀j,i<=j->j<i+m->(0<j->a (j-1) (j-1)<=a j j/\0<=a (j-1) j)/\ ¬VioP n a j
 |0,_,_=>fun j h1 h2=>by omega
 |m+1,i,h=>by
  rw[scanR]at h;split at h
  ·cases h
  rename_i h1;split at h
  ·cases h
  rename_i h2;split at h
  ·cases h
  rename_i h3;intro j hj1 hj2;by_cases e:j=i
  ·subst e;exact⟨fun h0=>by
    refine⟨?_,?_⟩
    ·rcases Int.lt_or_le (a j j) (a (j-1) (j-1))with g|g
     ·exact absurd ⟨h0,g⟩ h1
     exact g
    rcases Int.lt_or_le (a (j-1) j) 0 with g|g
    ·exact absurd ⟨h0,g⟩ h3
    exact g,mq h2⟩
  exact uD m (i+1) h j (by omega) (by omega)
theorem Ci {a:FF} (h:scanR n a n 0=none):MinkP a n:=by
 have h1:=uD n 0 h;refine⟨fun i hi=>?_,fun i hi=>(h1 i (by omega) (by omega)).2⟩;have:=(h1 (i+1) (by omega) (by omega)).1 (by omega);rw[Nat.add_sub_cancel]at this;exact this
inductive RchR (n:Nat) (h:FF):(Nat->Nat->Int)->(Nat->Nat->Int)->Prop
 |done (t:FF):scanR n (cngF n h t) n 0=none->RchR n h t t
 |step (t R:FF) (op:qY):scanR n (cngF n h t) n 0=some op->RchR n h (opC n t op) R->RchR n h t R
structure InC2 (n:Nat) (h:FF) (W:Int) (t:FF):Prop where
 nr: ∀a,a<n->cngF n h t a a<=W
 dt:(dk t n).natAbs=1
theorem InC2.op {h t:FF} {W:Int} (ht:InC2 n h W t) {op:qY} (ho:scanR n (cngF n h t) n 0=some op):InC2 n h W (opC n t op):=by
 obtain⟨_,h1,h2⟩:=jv n 0 op ho;cases op with
 |swp i=>
  have hi:i<n:=by simpa[qY.i] using h1
  obtain⟨h0,_⟩:=h2;refine⟨fun a ha=>?_,?_⟩
  ·have e2:(fun r=>opC n t (.swp i) r a)=if a=i then fun r=>t r (i-1)else if a=i-1 then fun r=>t r i else fun r=>t r a:=by
    by_cases e1:a=i
    ·subst e1;simp[opC]
    by_cases e3:a=i-1
    ·rw[if_neg e1,if_pos e3];funext r;exact(if_neg e1).trans (if_pos e3)
    simp[opC,e1,e3]
   rw[dx,e2];split
   ·rw[<- dx];exact ht.nr _ (by omega)
   split
   ·rw[<- dx];exact ht.nr _ hi
   rw[<- dx];exact ht.nr _ ha
  have:=s6 (R:=t) (n:=n) (a:=i) (b:=i-1) hi (by omega) (by omega);show(dk (fun r c=>if c=i then t r (i-1)else if c=i-1 then t r i else t r c) n).natAbs=1;rw[this,Int.natAbs_neg];exact ht.dt
 |rep i c=>
  have hi:i<n:=by simpa[qY.i] using h1
  obtain⟨_,h3⟩:=h2;refine⟨fun a ha=>?_,?_⟩
  ·by_cases e:a=i
   ·subst e;show cngF n h (cT t a (mV n t (cnd a c))) a a<=W;rw[yS];have:=ht.nr a ha;omega
   show cngF n h (cT t i (mV n t (cnd i c))) a a<=W;rw[rc _ e e];exact ht.nr a ha
  show(dk (cT t i (mV n t (cnd i c))) n).natAbs=1;rw[Dg hi,show cnd i c i=1 by simp[cnd],Int.one_mul];exact ht.dt
 |neg i=>
  have hi:i<n:=by simpa[qY.i] using h1
  refine⟨fun a ha=>?_,?_⟩
  ·rw[xk];have:=ht.nr a ha;split<;>omega
  show(dk (cT t i (fun r=> - t r i)) n).natAbs=1;rw[vN hi,Int.natAbs_neg];exact ht.dt
theorem Il {h t:FF} {op:qY} (ho:scanR n (cngF n h t) n 0=some op):Fe n (cngF n h (opC n t op))<Fe n (cngF n h t):=by
 obtain⟨_,h1,h2⟩:=jv n 0 op ho;cases op with
 |swp i=>exact M7 (K1 h2.1 (by simpa[qY.i] using h1) h2.2)
 |rep i c=>exact M7 (K0 (by simpa[qY.i] using h1) h2.2)
 |neg i=>
  have:=Lv h2.1 (by simpa[qY.i] using h1) h2.2;unfold Fe;rw[KZ];omega
theorem A8 {h t:FF} (hp:PD h n):0<=De n (cngF n h t):=ia n fun a _=>Int.mul_nonneg (by omega) (by rw[dx];exact(hp.pos _).1)
theorem oG {h t:FF} (hp:PD h n):0<=Fe n (cngF n h t):=by
 have h1:=A8 (n:=n) (t:=t) hp;have h2:=BQ (n:=n) (cngF n h t);have h3:0<=(n:Int)*((2^n:Nat):Int)+1:=by omega
 have:=Int.mul_nonneg h1 h3;unfold Fe;omega
theorem zW {h:FF} (hp:PD h n) {W:Int}: ∀(m:Nat) (t:FF),(Fe n (cngF n h t)).toNat=m->InC2 n h W t-> ∃R,RchR n h t R:=fun m=>by
 induction m using Nat.strongRecOn with
 |_ m ih=>
  intro t hm ht;cases ho:scanR n (cngF n h t) n 0 with
  |none=>exact⟨_,.done t ho⟩
  |some op=>
   have h1:=Il ho;have h2:=oG (n:=n) (t:=t) hp;have h3:=oG (n:=n) (t:=opC n t op) hp;obtain⟨R,hR⟩:=ih (Fe n (cngF n h (opC n t op))).toNat (by omega) _ rfl (ht.op ho);exact⟨R,.step t R op ho hR⟩
theorem zV {h t R:FF} {W:Int} (hr:RchR n h t R) (ht:InC2 n h W t):InC2 n h W R/\MinkP (cngF n h R) n:=by
 induction hr with
 |done t ho=>exact⟨ht,Ci ho⟩
 |step t R op ho _ ih=>exact ih (ht.op ho)
end
section
variable {n:Nat}
theorem Lz (f:FF) (x:Nat->Int):nrm n f (fun i=> - x i)=nrm n f x:=by
 unfold nrm;rw[rI,wN];omega
theorem pr {f:FF} (hs:SymF f n) (x y:Nat->Int) (c:Int):nrm n f (fun i=>x i+c*y i)=nrm n f x+2*c*BF n f x y+c*c*nrm n f y:=by
 unfold nrm;rw[ic,fK,fK,n7 hs y x];grind
theorem O7 {f:FF} {a b:Nat} (ha:a<n) (hb:b<n):BF n f (eC a) (eC b)=f a b:=by
 have e1: ∀(F:Nat->Int) a,a<n->bP (fun j=>F j*eC a j) n=F a:=fun F a ha=>by
  rw[gJ ha (fun p _ hne=>by unfold eC;rw[if_neg hne,Int.mul_zero])];unfold eC;rw[if_pos rfl,Int.mul_one]
 unfold BF;rw[aS n (G:=fun k=>f k b*eC a k) (fun k _=>by rw[e1 (f k) b hb];exact Int.mul_comm _ _),e1 (fun k=>f k b) a ha]
theorem vZ {f:FF} (hm:MinkP f n) {i:Nat} (hi:i<n) {x:Nat->Int} (hb: ∀j,j<i-> -1<=x j/\x j<=1) (h1:x i=1) (h0: ∀j,i<j->j<n->x j=0):f i i<=nrm n f x:=by
 rcases Int.lt_or_le (nrm n f x) (f i i)with h|h
 ·exact absurd (J8 hi hb h1 h0 h) (hm.2 i hi)
 exact h
theorem nC {f:FF} (hm:MinkP f n) {j:Nat} (hj:j<n): ∀i,i<=j->f i i<=f j j:=fun i hi=>by
 obtain⟨m,rfl⟩: ∃m,j=i+m:=⟨j-i,by omega⟩
 induction m with
 |zero=>exact Int.le_refl _
 |succ m ih=>
  have h1:=ih (by omega) (by omega);have h2:=(hm.1 (i+m) (by omega)).1;rw[<- Nat.add_assoc];omega
theorem zA {f:FF} (hs:SymF f n) (hm:MinkP f n) {i j:Nat} (hij:i<j) (hj:j<n): -(f i i)<=2*f i j/\2*f i j<=f i i:=by
 have key: ∀c:Int,-1<=c->c<=1->f j j<=f j j+2*c*f j i+c*c*f i i:=fun c h1 h2=>by
  have h:=vZ hm hj (x:=fun r=>eC j r+c*eC i r) (fun r hr=>by
   unfold eC;rw[if_neg (by omega)];split<;>omega) (by unfold eC;rw[if_pos rfl,if_neg (by omega)];omega) (fun r hr _=>by unfold eC;rw[if_neg (by omega),if_neg (by omega)];omega)
  rw[pr hs,jX hj,jX (by omega),O7 hj (by omega)]at h;exact h
 have h1:=key 1 (by omega) (by omega);have h2:=key (-1) (by omega) (by omega);have e:=hs i (by omega) j hj;omega
theorem Fb {f:FF} (hs:SymF f n) (hm:MinkP f n) {i j:Nat} (hi:i<n) (hj:j<n) (hij:i≠j): -(f j j)<=2*f i j/\2*f i j<=f j j:=by
 rcases Nat.lt_or_ge i j with h|h
 ·have h1:=zA hs hm h hj;have h2:=nC hm hj i (by omega);omega
 have h1:=zA hs hm (show j<i by omega) hi;have e:=hs i hi j hj;omega
def vi (y:Nat->Int) (k:Nat):Nat->Int:=fun j=>if j<k then(if 0<y j then 1 else if y j<0 then -1 else 0)else 0
theorem Ox (y:Nat->Int) (k j:Nat): -1<=vi y k j/\vi y k j<=1:=by
 unfold vi;split
 ·split
  ·omega
  split<;>omega
 omega
def l1 (y:Nat->Int):Nat->Nat
 |0=>0
 |k+1=>l1 y k+(y k).natAbs
theorem Dw {y:Nat->Int}: ∀{k},l1 y k=0-> ∀j,j<k->y j=0
 |k+1,h,j,hj=>by
  rw[l1]at h;by_cases e:j=k
  ·subst e;omega
  exact Dw (k:=k) (by omega) j (by omega)
theorem H6 {y:Nat->Int} {K:Nat}: ∀k,k<=K->l1 (fun j=>y j+ -1*vi y K j) k<=l1 y k/\(l1 y k≠0->l1 (fun j=>y j+ -1*vi y K j) k<l1 y k)
 |0,_=>by simp[l1]
 |k+1,hk=>by
  have ih:=H6 (y:=y) (K:=K) k (by omega);have h1:(y k+ -1*vi y K k).natAbs<=(y k).natAbs/\((y k).natAbs≠0->(y k+ -1*vi y K k).natAbs<(y k).natAbs):=by
   unfold vi;rw[if_pos (by omega)];split
   ·omega
   split<;>omega
  rw[l1,l1];refine⟨by omega,fun h=>?_⟩;by_cases e:l1 y k=0
  ·have:=h1.2 (by omega);omega
  have:=ih.2 e;omega
theorem C9 {f:FF} (hs:SymF f n) (hm:MinkP f n) {e:Nat->Int} (he: ∀j,-1<=e j/\e j<=1) {j:Nat} (hj:j<n) (hej:e j=1\/e j= -1) (hd:0<=f j j): ∀m,m<=n->(if j<m then 2*f j j-((m-1:Nat):Int)*f j j else-((m:Nat):Int)*f j j)<=2*(e j*bP (fun i=>e i*f i j) m)
 |0,_=>by simp[bP]
 |m+1,hmn=>by
  have ih:=C9 hs hm he hj hej hd m (by omega);rw[bP];have hmul:((m+1:Nat):Int)*f j j=((m:Nat):Int)*f j j+f j j:=by rw[Int.natCast_add,Int.add_mul];simp
  by_cases h:m=j
  ·subst h;rw[if_neg (by omega)]at ih;rw[if_pos (by omega),Nat.add_sub_cancel];have e1:e m*(e m*f m m)=f m m:=by rcases hej with h|h<;>rw[h]<;>omega
   have e2:2*(e m*(bP (fun i=>e i*f i m) m+e m*f m m))=2*(e m*bP (fun i=>e i*f i m) m)+2*f m m:=by
    rw[Int.mul_add,e1];omega
   rw[e2];have: -((m:Nat):Int)*f m m= -(((m:Nat):Int)*f m m):=Int.neg_mul _ _;omega
  have hh:=Fb hs hm (show m<n by omega) hj h;have hem:=he m;have e3: -(f j j)<=2*(e j*(e m*f m j)):=by
   have c:e m= -1\/e m=0\/e m=1:=by omega
   rcases hej with h1|h1<;>rcases c with h2|h2|h2<;>rw[h1,h2]<;>omega
  have e2:2*(e j*(bP (fun i=>e i*f i j) m+e m*f m j))=2*(e j*bP (fun i=>e i*f i j) m)+2*(e j*(e m*f m j)):=by
   rw[Int.mul_add];omega
  rw[e2];have n1: -((m:Nat):Int)*f j j= -(((m:Nat):Int)*f j j):=Int.neg_mul _ _;have n2: -((m+1:Nat):Int)*f j j= -(((m+1:Nat):Int)*f j j):=Int.neg_mul _ _;by_cases hjm:j<m
  ·rw[if_pos hjm]at ih;rw[if_pos (by omega),Nat.add_sub_cancel];have hmul2:((m:Nat):Int)*f j j=((m-1:Nat):Int)*f j j+f j j:=by
    have:((m:Nat):Int)=((m-1:Nat):Int)+1:=by omega
    rw[this,Int.add_mul,Int.one_mul]
   omega
  rw[if_neg hjm]at ih;rw[if_neg (by omega)];omega
theorem Np {f:FF} {x y:Nat->Int} {k:Nat} (hk:k<=n) (hx: ∀i,k<=i->i<n->x i=0):BF n f x y=bP (fun j=>y j*bP (fun i=>x i*f i j) k) n:=by
 unfold BF;rw[aS n (G:=fun i=>bP (fun j=>x i*f i j*y j) n) (fun i _=>by rw[<- cH];exact aS n fun j _=>by grind),kD];refine aS n fun j _=>?_
 obtain⟨m,rfl⟩: ∃m,n=k+m:=⟨n-k,by omega⟩;have ext: ∀m,(∀i,k<=i->i<k+m->x i=0)->bP (fun i=>x i*f i j*y j) (k+m)=bP (fun i=>x i*f i j*y j) k:=fun m=>by
  induction m with
  |zero=>intro _;rfl
  |succ m ih=>
   intro h;rw[<- Nat.add_assoc,bP,ih (fun i h1 h2=>h i h1 (by omega)),h (k+m) (by omega) (by omega)]
   simp
 rw[ext m (fun i h1 h2=>hx i h1 h2),mP,Int.mul_comm]
theorem BL {f:FF} (hp:PD f n) (hm:MinkP f n) {k:Nat} (hk:k<n) (hk3:k<=3): ∀(l:Nat) (y:Nat->Int),l1 y k=l->(∀j,k<=j->j<n->y j=0)->0<=nrm n f y+2*BF n f y (eC k):=fun l=>by
 induction l using Nat.strongRecOn with
 |_ l ih=>
  intro y hl hy;by_cases h0:l1 y k=0
  ·have hz: ∀j,j<n->y j=0:=fun j hj=>by
    rcases Nat.lt_or_ge j k with h|h
    ·exact Dw h0 j h
    exact hy j h hj
   unfold nrm;rw[kG hz,kG hz];omega
  obtain⟨e,hE⟩: ∃e,e=vi y k:=⟨_,rfl⟩;obtain⟨y',hY⟩: ∃y':Nat->Int,y'=fun j=>y j+ -1*vi y k j:=⟨_,rfl⟩
  have heb: ∀j,-1<=e j/\e j<=1:=fun j=>by rw[hE];exact Ox y k j
  have he0: ∀j,k<=j->e j=0:=fun j hj=>by rw[hE];unfold vi;rw[if_neg (by omega)]
  have hy0: ∀j,k<=j->j<n->y' j=0:=fun j hj hjn=>by
   rw[hY];show y j+ -1*vi y k j=0;rw[hy j hj hjn,<- hE,he0 j hj];rfl
  have hsum: ∀j,j<n->y j=e j+1*y' j:=fun j _=>by rw[hE,hY];show y j=vi y k j+1*(y j+ -1*vi y k j);omega
  have h1:=ih (l1 y' k) (by rw[<- hl,hY];exact(H6 k (ac k)).2 h0) y' rfl hy0
  -- the sign vector
  have h2:0<=nrm n f e+2*BF n f e (eC k):=by
   have h:=vZ hm hk (x:=fun r=>e r+1*eC k r) (fun r hr=>by
    have:=heb r;unfold eC;rw[if_neg (by omega)];omega) (by show e k+1*eC k k=1;rw[he0 k (by omega)];simp[eC]) (fun r hr _=>by
    show e r+1*eC k r=0;rw[he0 r (by omega)];unfold eC;rw[if_neg (by omega)];rfl)
   rw[pr hp.1,jX hk]at h;omega
  -- the inner product
  have h3:0<=BF n f e y':=by
   rw[Np (k:=k) (by omega) (fun i h _=>he0 i h)];refine ia n fun j hj=>?_
   rcases Nat.lt_or_ge j k with hjk|hjk
   ·by_cases hz:y' j=0
    ·rw[hz,Int.zero_mul];omega
    have hd:=hp.diag hj;have hej:(e j=1/\0<y' j)\/(e j= -1/\y' j<0):=by
     rw[hE,hY];rw[hY]at hz;have hz:y j+ -1*vi y k j≠0:=hz;show(vi y k j=1/\0<y j+ -1*vi y k j)\/(vi y k j= -1/\y j+ -1*vi y k j<0);have e0:vi y k j=if 0<y j then 1 else if y j<0 then -1 else 0:=by unfold vi;rw[if_pos hjk]
     rw[e0]at hz⊢;split
     ·rename_i hpos;rw[if_pos hpos]at hz;left;omega
     rename_i hpos;rw[if_neg hpos]at hz;split
     ·rename_i hneg;rw[if_pos hneg]at hz;right;omega
     rename_i hneg;rw[if_neg hneg]at hz;omega
    have hc:=C9 hp.1 hm heb hj (by rcases hej with h|h;exact .inl h.1;exact .inr h.1) (by omega) k (by omega);rw[if_pos hjk]at hc;have hk2:((k-1:Nat):Int)*f j j<=2*f j j:=Int.mul_le_mul_of_nonneg_right (by omega) (by omega);generalize bP (fun i=>e i*f i j) k=S at*
    rcases hej with⟨g1,g2⟩|⟨g1,g2⟩
    ·rw[g1]at hc;exact Int.mul_nonneg (by omega) (by omega)
    rw[g1]at hc;exact Int.mul_nonneg_of_nonpos_of_nonpos (by omega) (by omega)
   rw[hy0 j hjk hj,Int.zero_mul];omega
  have e5:nrm n f y=nrm n f e+2*BF n f e y'+nrm n f y':=by
   rw[gV hsum,pr hp.1];omega
  have e6:BF n f y (eC k)=BF n f e (eC k)+BF n f y' (eC k):=by
   rw[ee (x':=fun j=>e j+1*y' j) (fun _ _ _ _=>rfl) hsum (fun _ _=>rfl),ic];omega
  omega
end
section
variable {n:Nat}
theorem zB {f:FF} (hp:PD f n) (hm:MinkP f n) {k:Nat} (hk:k<n) (hk3:k<=3) {x:Nat->Int} (h1:x k=1) (h0: ∀j,k<j->j<n->x j=0):f k k<=nrm n f x:=by
 have h:=BL hp hm hk hk3 _ (fun j=>if j<k then x j else 0) rfl (fun j hj _=>if_neg (by omega));have e: ∀j,j<n->x j=(fun j=>if j<k then x j else 0) j+1*eC k j:=fun j hj=>by
  show x j=(if j<k then x j else 0)+1*eC k j;unfold eC;by_cases h2:j<k
  ·rw[if_pos h2,if_neg (by omega)];omega
  rw[if_neg h2];by_cases h3:j=k
  ·subst h3;rw[if_pos rfl,h1];rfl
  rw[if_neg h3,h0 j (by omega) hj];rfl
 rw[gV e,pr hp.1,jX hk];omega
theorem Ly (f:FF) (m:Int) (x:Nat->Int):nrm n f (fun i=>m*x i)=m*m*nrm n f x:=by
 unfold nrm BF;rw[<- cH];refine aS n fun i _=>?_
 rw[aS n (G:=fun j=>m*(f i j*x j)) (fun j _=>by grind),cH];grind
theorem v6 {f:FF} (hp:PD f n) (hm:MinkP f n) {k:Nat} (hk:k<n) (hk3:k<=3) {m:Int} (hm0:0<m): ∀j,j<=k-> ∀u:Nat->Int,u k=m->(∀i,k<i->i<n->u i=0)->(∀i,j<=i->i<k->m∣u i)->
  m*m*(4*f k k-bP (fun i=>f i i) j)<=4*nrm n f u
 |0,_,u,h1,h0,hd=>by
  have e: ∀i,i<n->u i=m*(if k<i then 0 else u i/m):=fun i hi=>by
   by_cases h:k<i
   ·rw[if_pos h,h0 i h hi];simp
   rw[if_neg h];by_cases h2:i=k
   ·subst h2;rw[h1,Int.ediv_self (by omega)];simp
   exact(Int.mul_ediv_cancel' (hd i (by omega) (by omega))).symm
  have h2:=zB hp hm hk hk3 (x:=fun i=>if k<i then 0 else u i/m) (by
   show(if k<k then 0 else u k/m)=1;rw[if_neg (by omega),h1,Int.ediv_self (by omega)]) (fun j hj _=>if_pos hj)
  rw[gV e,Ly];have h3:=Int.mul_le_mul_of_nonneg_left h2 (Int.mul_nonneg (Int.le_of_lt hm0) (Int.le_of_lt hm0));have e0:bP (fun i=>f i i) 0=0:=rfl;rw[e0];have e4:m*m*(4*f k k-0)=4*(m*m*f k k):=by grind
  omega
 |j+1,hj,u,h1,h0,hd=>by
  have hjn:j<n:=by omega
  obtain⟨r,hr⟩: ∃r,r=u j%m:=⟨_,rfl⟩;have r0:0<=r:=by rw[hr];exact Int.emod_nonneg _ (by omega)
  have r1:r<m:=by rw[hr];exact Int.emod_lt_of_pos _ hm0
  have hdj:m∣u j+ -r:=by
   have:u j+ -r=m*(u j/m):=by have:=Int.mul_ediv_add_emod (u j) m;omega
   exact⟨u j/m,this⟩
  have sub: ∀c:Int,m∣u j+c->m*m*(4*f k k-bP (fun i=>f i i) j)<=4*nrm n f (fun i=>u i+c*eC j i):=fun c hc=>by
   refine v6 hp hm hk hk3 hm0 j (by omega) _ ?_ (fun i hi hin=>?_) (fun i hi hik=>?_)
   ·show u k+c*eC j k=m;unfold eC;rw[if_neg (by omega),h1];omega
   ·show u i+c*eC j i=0;unfold eC;rw[if_neg (by omega),h0 i hi hin];omega
   show m∣u i+c*eC j i;unfold eC;by_cases e:i=j
   ·subst e;rw[if_pos rfl,Int.mul_one];exact hc
   rw[if_neg e,Int.mul_zero,Int.add_zero];exact hd i (by omega) hik
  have a0:=sub (-r) hdj;have a1:=sub (m-r) (by
   obtain⟨q,hq⟩:=hdj;exact⟨q+1,by rw[Int.mul_add,<- hq];omega⟩)
  rw[pr hp.1,jX hjn]at a0 a1;have hW:=hp.diag hjn;rw[bP];generalize bP (fun i=>f i i) j=S at*
  generalize BF n f u (eC j)=B at*
  generalize nrm n f u=U at*
  generalize f j j=W at*
  generalize f k k=K at*
  -- (m - r) a0 + r a1
  have b0:=Int.mul_le_mul_of_nonneg_left a0 (show 0<=m-r by omega);have b1:=Int.mul_le_mul_of_nonneg_left a1 r0;have e1:(m-r)*(4*(U+2* -r*B+ -r* -r*W))+r*(4*(U+2*(m-r)*B+(m-r)*(m-r)*W))=m*(4*U+4*(r*(m-r))*W):=by grind
  have e2:(m-r)*(m*m*(4*K-S))+r*(m*m*(4*K-S))=m*(m*m*(4*K-S)):=by grind
  have h3:m*(m*m*(4*K-S))<=m*(4*U+4*(r*(m-r))*W):=by omega
  have h4:=Int.le_of_mul_le_mul_left h3 hm0;have h5:4*(r*(m-r))<=m*m:=by
   have:0<=(m-2*r)*(m-2*r):=by
    rcases Int.le_total 0 (m-2*r)with h|h
    ·exact Int.mul_nonneg h h
    exact Int.mul_nonneg_of_nonpos_of_nonpos h h
   have e:(m-2*r)*(m-2*r)=m*m-4*(r*(m-r)):=by grind
   omega
  have h6:=Int.mul_le_mul_of_nonneg_right h5 (Int.le_of_lt hW);have e3:m*m*(4*K-(S+W))=m*m*(4*K-S)-m*m*W:=by grind
  omega
theorem Ih {f:FF} (hp:PD f n) (hm:MinkP f n) (hn:n<=4) {k:Nat} (hk:k<n) {x:Nat->Int} (hx:x k≠0) (h0: ∀j,k<j->j<n->x j=0):f k k<=nrm n f x:=by
 have pos: ∀x:Nat->Int,0<x k->(∀j,k<j->j<n->x j=0)->f k k<=nrm n f x:=fun x hx h0=>by
  have hd:=hp.diag hk;by_cases h1:x k=1
  ·exact zB hp hm hk (by omega) h1 h0
  have h2:=v6 hp hm hk (by omega) (m:=x k) hx k (ac k) x rfl h0 (fun i h3 h4=>by omega);have hs:bP (fun i=>f i i) k<=3*f k k:=by
   have: ∀j,j<=k->bP (fun i=>f i i) j<=(j:Int)*f k k:=fun j=>by
    induction j with
    |zero=>intro _;simp[bP]
    |succ j ih=>
     intro hj;have h3:=ih (by omega);have h4:=nC hm hk j (by omega);rw[bP,Int.natCast_add,Int.add_mul];simp;omega
   have h3:=this k (ac k);have h4:(k:Int)*f k k<=3*f k k:=Int.mul_le_mul_of_nonneg_right (by omega) (by omega);omega
  have h5:x k*x k*f k k<=x k*x k*(4*f k k-bP (fun i=>f i i) k):=Int.mul_le_mul_of_nonneg_left (by omega) (Int.mul_nonneg (by omega) (by omega));have h6:2*2<=x k*x k:=Int.mul_le_mul (by omega) (by omega) (by omega) (by omega);have h7:=Int.mul_le_mul_of_nonneg_right h6 (Int.le_of_lt hd);omega
 rcases Int.lt_or_le 0 (x k)with h|h
 ·exact pos x h h0
 rw[<- Lz];exact pos (fun i=> - x i) (by show 0< - x k;omega) (fun j h1 h2=>by show-x j=0;rw[h0 j h1 h2];rfl)
end
section
variable {n:Nat}
theorem Jz {F:Nat->Int} {p q m:Nat} (hp:p<m) (hq:q<m):bP (fun a=>if a=p then F q else if a=q then F p else F a) m=bP F m:=by
 by_cases h:p=q
 ·subst h;exact aS m fun a _=>by
   by_cases e:a=p
   ·subst e;rw[if_pos rfl]
   rw[if_neg e,if_neg e]
 have h1:=nT (F:=F) (G:=fun a=>if a=p then F q else F a) hp (fun a _ hne=>(if_neg hne).symm);have h2:=nT (F:=fun a=>if a=p then F q else F a) (G:=fun a=>if a=p then F q else if a=q then F p else F a) hq (fun a _ hne=>by
  by_cases e:a=p
  ·rw[if_pos e,if_pos e]
  rw[if_neg e,if_neg e,if_neg hne])
 rw[if_pos rfl]at h1;rw[if_neg (Ne.symm h),if_pos rfl,if_neg (Ne.symm h)]at h2;omega
theorem xn: ∀(i:Nat) (X:FF),∃c:Nat->Int,(∃a,a<=i/\c a≠0)/\ ∀r,r<i->bP (fun a=>c a*X a r) (i+1)=0
 |0,_=>⟨fun _=>1,⟨0,by omega,by simp⟩,fun r hr=>by omega⟩
 |i+1,X=>by
  by_cases hz: ∀a,a<=i+1->X a i=0
  ·obtain⟨c,⟨a,ha,hc⟩,h⟩:=xn i X;refine⟨fun a=>if a=i+1 then 0 else c a,⟨a,by omega,by show(if a=i+1 then 0 else c a)≠0;rw[if_neg (by omega)];exact hc⟩,fun r hr=>?_⟩;show bP (fun a=>(if a=i+1 then 0 else c a)*X a r) (i+1+1)=0;rw[bP,if_pos rfl,Int.zero_mul,Int.add_zero];by_cases e:r=i
   ·subst e;rw[aS (r+1) (G:=fun _=>0) (fun a ha=>by rw[hz a (by omega),Int.mul_zero]),dR]
   rw[aS (i+1) (G:=fun a=>c a*X a r) (fun a ha=>by rw[if_neg (by omega)])];exact h r (by omega)
  obtain⟨p,hp,hpz⟩: ∃p,p<=i+1/\X p i≠0:=by
   rcases Classical.em (∃p,p<=i+1/\X p i≠0)with h|h
   ·exact h
   exact absurd (fun a ha=>Classical.byContradiction fun hne=>h ⟨a,ha,hne⟩) hz
  obtain⟨Y,hY⟩: ∃Y:Nat->Nat->Int,Y=fun a=>if a=p then X (i+1)else if a=i+1 then X p else X a:=⟨_,rfl⟩
  have hYl:Y (i+1)=X p:=by
   rw[hY];by_cases e:i+1=p
   ·show(if i+1=p then X (i+1)else _)=_;rw[if_pos e,e]
   show(if i+1=p then X (i+1)else if i+1=i+1 then X p else X (i+1))=_;rw[if_neg e,if_pos rfl]
  obtain⟨q,hq⟩: ∃q,q=X p i:=⟨_,rfl⟩;obtain⟨c,⟨a0,ha0,hc0⟩,h⟩:=xn i (fun a r=>q*Y a r-Y a i*X p r);obtain⟨s,hs⟩: ∃s,s=bP (fun a=>c a*Y a i) (i+1):=⟨_,rfl⟩;have hsum: ∀r,r<i+1->bP (fun a=>(if a=i+1 then -s else q*c a)*Y a r) (i+1+1)=0:=fun r hr=>by
   rw[bP,if_pos rfl,hYl,aS (i+1) (G:=fun a=>q*(c a*Y a r)) (fun a ha=>by rw[if_neg (by omega)];grind),cH];by_cases e:r=i
   ·subst e;rw[<- hs,<- hq];grind
   have h1:=h r (by omega);have h2:bP (fun a=>c a*(q*Y a r-Y a i*X p r)) (i+1)=q*bP (fun a=>c a*Y a r) (i+1)-X p r*s:=by
    rw[hs,<- cH,<- cH];have: ∀(F G:Nat->Int) m,bP (fun a=>F a-G a) m=bP F m-bP G m:=fun F G m=>by
     induction m with
     |zero=>rfl
     |succ m ih=>rw[bP,bP,bP,ih];omega
    rw[<- this];exact aS _ fun a _=>by grind
   rw[h2]at h1;have e1: -s*X p r= -(X p r*s):=by grind
   rw[e1];omega
  refine⟨fun a=>if a=p then -s else if a=i+1 then(if p=i+1 then -s else q*c p)else q*c a,?_,fun r hr=>?_⟩
  ·by_cases e:a0=p
   ·by_cases e2:p=i+1
    ·omega
    refine⟨i+1,by omega,?_⟩;show(if i+1=p then -s else if i+1=i+1 then(if p=i+1 then -s else q*c p)else q*c (i+1))≠0;rw[if_neg (by omega),if_pos rfl,if_neg e2];subst e;exact Int.mul_ne_zero (by rw[hq];exact hpz) hc0
   refine⟨a0,by omega,?_⟩;show(if a0=p then -s else if a0=i+1 then(if p=i+1 then -s else q*c p)else q*c a0)≠0;rw[if_neg e,if_neg (by omega)];exact Int.mul_ne_zero (by rw[hq];exact hpz) hc0
  rw[<- hsum r hr,<- Jz (F:=fun a=>(if a=i+1 then -s else q*c a)*Y a r) (p:=p) (q:=i+1) (by omega) (by omega)];refine aS _ fun a ha=>?_
  show(if a=p then -s else if a=i+1 then(if p=i+1 then -s else q*c p)else q*c a)*X a r=if a=p then(if i+1=i+1 then -s else q*c (i+1))*Y (i+1) r else if a=i+1 then(if p=i+1 then -s else q*c p)*Y p r else(if a=i+1 then -s else q*c a)*Y a r
  by_cases e:a=p
  ·subst e;rw[if_pos rfl,if_pos rfl,if_pos rfl,hYl]
  rw[if_neg e,if_neg e];by_cases e2:a=i+1
  ·subst e2;rw[if_pos rfl,if_pos rfl];have:Y p=X (i+1):=by rw[hY];exact if_pos rfl
   rw[this]
  rw[if_neg e2,if_neg e2,if_neg e2];have:Y a=X a:=by rw[hY];show(if a=p then X (i+1)else if a=i+1 then X p else X a)=X a;rw[if_neg e,if_neg e2]
  rw[this]
def wU (n:Nat) (t:FF):Prop:= ∃s:(Nat->Int)->Nat->Int,∀v j,j<n->mV n t (s v) j=v j
theorem Oh (h t:FF) (x:Nat->Int):nrm n h (mV n t x)=nrm n (cngF n h t) x:=p9 h t x x
theorem EX {h u:FF} (hp:PD (cngF n h u) n) {x:Nat->Int} (hx: ∀i,i<n->bP (fun j=>u i j*x j) n=0): ∀j,j<n->x j=0:=by
 refine(hp.pos x).2.1 ?_;rw[<- p9];refine kG fun i hi=>?_
 rw[<- hx i hi];exact aS n fun a _=>Int.mul_comm _ _
theorem zz {h t u:FF} (hn:n<=4) (hf:PD (cngF n h t) n) (mf:MinkP (cngF n h t) n) (mg:MinkP (cngF n h u) n) (ht:wU n t) (hu:PD (cngF n h u) n) {i:Nat} (hi:i<n):cngF n h t i i<=cngF n h u i i:=by
 obtain⟨s,hs⟩:=ht;rcases Int.lt_or_le (cngF n h u i i) (cngF n h t i i)with hlt|hle
 ·exfalso;obtain⟨X,hX⟩: ∃X:Nat->Nat->Int,X=fun a=>s (fun r=>u r a):=⟨_,rfl⟩
  have hTX: ∀a j,j<n->mV n t (X a) j=u j a:=fun a j hj=>by rw[hX];exact hs _ j hj
  have hN: ∀a,nrm n (cngF n h t) (X a)=cngF n h u a a:=fun a=>by
   rw[<- Oh,gV (hTX a),dx];rfl
  have hzero: ∀a,a<=i-> ∀m k,m+k+1=n->i<=k->X a k=0:=fun a ha m=>by
   induction m using Nat.strongRecOn with
   |_ m ih=>
    intro k hk hik;refine Classical.byContradiction fun hne=>?_
    have h1:=Ih hf mf hn (show k<n by omega) hne (fun j hj hjn=>ih (n-j-1) (by omega) j (by omega) (by omega));have h2:=nC mf (show k<n by omega) i hik;have h3:=nC mg hi a ha;rw[hN]at h1;omega
  obtain⟨c,⟨a,ha,hc⟩,h0⟩:=xn i X;have hker:=EX hu (x:=fun a=>if a<=i then c a else 0) (fun r hr=>by
   have e1: ∀m,i+1<=m->bP (fun j=>u r j*(if j<=i then c j else 0)) m=bP (fun j=>u r j*c j) (i+1):=fun m hm=>by
    obtain⟨d,rfl⟩: ∃d,m=i+1+d:=⟨m-(i+1),by omega⟩
    induction d with
    |zero=>exact aS _ fun j hj=>by rw[if_pos (by omega)]
    |succ d ihd=>rw[<- Nat.add_assoc,bP,ihd (by omega),if_neg (by omega)];omega
   rw[e1 n (by omega),aS (i+1) (G:=fun j=>bP (fun b=>c j*X j b*t r b) n) (fun j hj=>by
    rw[<- hTX j r hr];unfold mV;rw[Int.mul_comm,<- cH];exact aS n fun b _=>by grind),kD,aS n (G:=fun _=>0) (fun b hb=>by
    rw[aS (i+1) (G:=fun j=>(c j*X j b)*t r b) (fun _ _=>rfl),mP];by_cases hbi:b<i
    ·rw[h0 b hbi,Int.zero_mul]
    rw[aS (i+1) (G:=fun _=>0) (fun j hj=>by rw[hzero j (by omega) (n-b-1) b (by omega) (by omega),Int.mul_zero]),dR,Int.zero_mul]),dR]) a (by omega)
  rw[if_pos ha]at hker;exact hc hker
 exact hle
theorem E9 {h t u:FF} (hn:n<=4) (pt:PD (cngF n h t) n) (pu:PD (cngF n h u) n) (mf:MinkP (cngF n h t) n) (mg:MinkP (cngF n h u) n) (ht:wU n t) (hu:wU n u) {i:Nat} (hi:i<n):cngF n h t i i=cngF n h u i i:=by
 have h1:=zz hn pt mf mg ht pu hi;have h2:=zz hn pu mg mf hu pt hi;omega
theorem tI {h t u:FF} (hn:n<=4) (hp:PD h n) (mf:MinkP (cngF n h t) n) (mg:MinkP (cngF n h u) n) (ht:wU n t) (hu:wU n u) (dt:dk t n≠0) (du:dk u n≠0) {i:Nat} (hi:i<n):cngF n h t i i=cngF n h u i i:=
 E9 hn (hp.cng dt) (hp.cng du) mf mg ht hu hi
end
section
variable {n:Nat}
def lZ (n:Nat) (t:FF):Prop:= ∀v:Nat->Int,∃y,∀j,j<n->mV n t y j=v j
theorem lZ.rinv {t:FF} (h:lZ n t):wU n t:=⟨fun v=>Classical.choose (h v),fun v=>Classical.choose_spec (h v)⟩
theorem lZ.of {t t':FF} (h:lZ n t) (k: ∀x,∃y,∀j,j<n->mV n t' y j=mV n t x j):lZ n t':=fun v=>by
 obtain⟨x,hx⟩:=h v;obtain⟨y,hy⟩:=k x;exact⟨y,fun j hj=>by rw[hy j hj,hx j hj]⟩
theorem lZ.one:lZ n (fun i j=>if i=j then 1 else 0):=fun v=>⟨v,fun j hj=>by
 show bP (fun a=>v a*(if j=a then 1 else 0)) n=v j;rw[gJ hj (fun p _ hne=>by rw[if_neg (Ne.symm hne),Int.mul_zero]),if_pos rfl,Int.mul_one]⟩
theorem lZ.congr {t t':FF} (h:lZ n t) (e: ∀i j,i<n->j<n->t' i j=t i j):lZ n t':=h.of fun x=>⟨x,fun j hj=>aS n fun a ha=>by rw[e j a hj ha]⟩
theorem lZ.swap {t:FF} (h:lZ n t) {p q:Nat} (hp:p<n) (hq:q<n):lZ n (fun i c=>if c=p then t i q else if c=q then t i p else t i c):=h.of fun x=>
 ⟨fun a=>if a=p then x q else if a=q then x p else x a,fun j _=>by
  unfold mV;rw[<- Jz (F:=fun a=>x a*t j a) hp hq];refine aS n fun a _=>?_
  show(if a=p then x q else if a=q then x p else x a)*(if a=p then t j q else if a=q then t j p else t j a)=if a=p then x q*t j q else if a=q then x p*t j p else x a*t j a
  by_cases e:a=p
  ·rw[if_pos e,if_pos e,if_pos e]
  rw[if_neg e,if_neg e,if_neg e];by_cases e2:a=q
  ·rw[if_pos e2,if_pos e2,if_pos e2]
  rw[if_neg e2,if_neg e2,if_neg e2]⟩
theorem lZ.comb {t:FF} (h:lZ n t) {i:Nat} (hi:i<n) {c:Nat->Int} (hc:c i=1):lZ n (cT t i (mV n t c)):=h.of fun x=>
 ⟨fun a=>if a=i then x i else x a-x i*c a,fun j _=>by
  have h1:=nT (F:=fun a=>(x a-x i*c a)*t j a) (G:=fun a=>(if a=i then x i else x a-x i*c a)*cT t i (mV n t c) j a) hi (fun a _ hne=>by
   show _=(if a=i then x i else x a-x i*c a)*cT t i (mV n t c) j a;unfold cT;rw[if_neg hne,if_neg hne])
  have h2:bP (fun a=>(x a-x i*c a)*t j a) n=bP (fun a=>x a*t j a) n-x i*bP (fun a=>c a*t j a) n:=by
   rw[<- cH];have: ∀(F G:Nat->Int) m,bP (fun a=>F a-G a) m=bP F m-bP G m:=fun F G m=>by
    induction m with
    |zero=>rfl
    |succ m ih=>rw[bP,bP,bP,ih];omega
   rw[<- this];exact aS _ fun a _=>by grind
  have e1:(if i=i then x i else x i-x i*c i)*cT t i (mV n t c) j i=x i*bP (fun a=>c a*t j a) n:=by
   unfold cT mV;rw[if_pos rfl,if_pos rfl]
  show bP (fun a=>(if a=i then x i else x a-x i*c a)*cT t i (mV n t c) j a) n=bP (fun a=>x a*t j a) n;rw[h1,h2,e1,hc];have e2:(x i-x i*1)*t j i=0:=by rw[Int.mul_one,Int.sub_self,Int.zero_mul]
  rw[e2];omega⟩
theorem lZ.sign {t:FF} (h:lZ n t) {s:Nat->Int} (hs: ∀a,s a=1\/s a= -1):lZ n (fun i c=>s c*t i c):=h.of fun x=>
 ⟨fun a=>s a*x a,fun j _=>aS n fun a _=>by
  show s a*x a*(s a*t j a)=x a*t j a;rcases hs a with e|e<;>rw[e]<;>grind⟩
/-! The program's loop. -/
theorem zi (N:(Nat->Int)->Int): ∀j B,j<n->lZ n (trF B)->lZ n (trF (insB N B j))
 |0,_,_,h=>h
 |j+1,B,hj,h=>by
  rw[insB];split
  ·refine zi N j _ (by omega) ?_;rw[JL];exact h.swap hj (by omega)
  exact h
theorem uM (N:(Nat->Int)->Int) {B:FF} (h:lZ n (trF B)): ∀i,i<=n->lZ n (trF (kE N B i))
 |0,_=>h
 |i+1,hi=>zi N i _ (by omega) (uM N h i (by omega))
theorem zU {h B R:FF} (hr:RchB n h B R) (hB:lZ n (trF B)):lZ n (trF R):=by
 induction hr with
 |done B hv=>exact uM _ hB n (ac n)
 |step B R i hv _ ih=>
  obtain⟨_,h1,h2,_⟩:=jd n 0 i hv;refine ih ?_;rw[JK];exact lZ.comb (uM _ hB n (ac n)) (by omega) (uH n _ i (3^i)).1
theorem DW {g B:FF} (h:lZ n (trF B)):lZ n (trF (rF g B)):=h.sign (s:=lN g) (lO g)
/-! The reference's loop. -/
theorem LF {h t:FF} {op:qY} (ho:scanR n (cngF n h t) n 0=some op) (ht:lZ n t):lZ n (opC n t op):=by
 obtain⟨_,h1,h2⟩:=jv n 0 op ho;cases op with
 |swp i=>
  have hi:i<n:=by simpa[qY.i] using h1
  exact ht.swap hi (by omega)
 |rep i c=>
  have hi:i<n:=by simpa[qY.i] using h1
  exact ht.comb hi (by simp[cnd])
 |neg i=>
  refine(ht.sign (s:=fun a=>if a=i then -1 else 1) (fun a=>by by_cases e:a=i<;>simp[e])).congr fun a b _ _=>?_
  show cT t i (fun r=> - t r i) a b=(if b=i then -1 else 1)*t a b;unfold cT;by_cases e:b=i
  ·subst e;rw[if_pos rfl,if_pos rfl];show-t a b= -1*t a b;omega
  rw[if_neg e,if_neg e];omega
theorem IZ {h t R:FF} (hr:RchR n h t R) (ht:lZ n t):lZ n R:=by
 induction hr with
 |done t ho=>exact ht
 |step t R op ho _ ih=>exact ih (LF ho ht)
theorem Fc {h R T:FF} {W:Int} (hn1:1<=n) (hn:n<=4) (hp:PD h n) (hR:RchB n h (fun a b=>if a=b then 1 else 0) R) (hT:RchR n h (fun a b=>if a=b then 1 else 0) T)
  (h1:InB2 n h W (fun a b=>if a=b then 1 else 0)) (h2:InC2 n h W (fun a b=>if a=b then 1 else 0)) {i:Nat} (hi:i<n):gmB n h (rF (gmB n h R) R) i i=cngF n h T i i:=by
 obtain⟨e1,e2,e3⟩:=pG hR h1;obtain⟨g1,g2⟩:=zV hT h2;have m1:=tJ e2 e3;rw[nk]at m1⊢;have one:lZ n (trF (fun a b=>if a=b then(1:Int)else 0)):=lZ.one.congr fun i j _ _=>by
  show(if j=i then(1:Int)else 0)=if i=j then 1 else 0
  by_cases e:i=j<;>simp[e,eq_comm]
 have s1:=DW (g:=gmB n h R) (zU hR one);have s2:=IZ hT lZ.one;have d1:=(e1.sg (gmB n h R)).dt;have d2:=g1.dt;exact tI hn hp m1 g2 s1.rinv s2.rinv (by omega) (by omega) hi
end
theorem qo (f:FF):dk f 2=f 0 0*f 1 1-f 0 1*f 1 0:=by
 simp[dk,om,dz,l6];grind
theorem Dd (h t:FF):dk (cngF 2 h t) 2=dk h 2*(dk t 2*dk t 2):=by
 rw[qo,qo,qo];simp only[dx,BF,bP];grind
theorem Ii {h t u:FF} (hp:PD h 2) (mf:MinkP (cngF 2 h t) 2) (mg:MinkP (cngF 2 h u) 2) (ht:wU 2 t) (hu:wU 2 u) (dt:(dk t 2).natAbs=1) (du:(dk u 2).natAbs=1) {i j:Nat} (hi:i<2) (hj:j<2):cngF 2 h t i j=cngF 2 h u i j:=by
 have d0:=tI (by omega) hp mf mg ht hu (by omega) (by omega) (i:=0) (by omega);have d1:=tI (by omega) hp mf mg ht hu (by omega) (by omega) (i:=1) (by omega);have q: ∀v:Int,v.natAbs=1->v*v=1:=fun v hv=>by
  have:v=1\/v= -1:=by omega
  rcases this with e|e<;>rw[e]<;>rfl
 have e1:=Dd h t;have e2:=Dd h u;rw[q _ dt,qo]at e1;rw[q _ du,qo]at e2;have s1:=(hp.cng (t:=t) (by omega)).1 0 (by omega) 1 (by omega);have s2:=(hp.cng (t:=u) (by omega)).1 0 (by omega) 1 (by omega);have n1:=(mf.1 0 (by omega)).2;have n2:=(mg.1 0 (by omega)).2;rw[Nat.zero_add]at n1 n2;have off:cngF 2 h t 0 1=cngF 2 h u 0 1:=by
  rw[<- s1]at e1;rw[<- s2]at e2;rw[d0,d1]at e1;generalize cngF 2 h t 0 1=a at*
  generalize cngF 2 h u 0 1=b at*
  have hab:a*a=b*b:=by omega
  rcases Int.lt_or_le a b with hl|hl
  ·have:a*a<b*b:=by
    have h1:a*a<=a*b:=Int.mul_le_mul_of_nonneg_left (by omega) n1;have h2:a*b<b*b:=Int.mul_lt_mul_of_pos_right hl (by omega);omega
   omega
  rcases Int.lt_or_le b a with hl2|hl2
  ·have:b*b<a*a:=by
    have h1:b*b<=b*a:=Int.mul_le_mul_of_nonneg_left (by omega) n2;have h2:b*a<a*a:=Int.mul_lt_mul_of_pos_right hl2 (by omega);omega
   omega
  omega
 have ci:i=0\/i=1:=by omega
 have cj:j=0\/j=1:=by omega
 rcases ci with rfl|rfl<;>rcases cj with rfl|rfl
 ·exact d0
 ·exact off
 ·rw[<- s1,<- s2];exact off
 exact d1
theorem PA {n:Nat} {X:Nat->Int} (h: ∀j,j<n->X j=0):lc fI (bA n X)=ae n [.p (.raw (.int .i64 0))]:=by
 have e:bA n X=ae n 0:=by
  apply List.ext_getElem?;intro j;by_cases hj:j<n
  ·rw[aT _ hj,List.getElem?_replicate,if_pos hj,h j hj]
  rw[List.getElem?_eq_none (by rw[bs];omega),List.getElem?_eq_none (by simp;omega)]
 rw[e,lc,List.map_replicate];rfl
theorem Hn {n:Nat} {a:FF} {i c:Nat} (hc:nrm n a (cnd i c)<a i i): ∀m c0,c0<=c->c<c0+m->(∀r,c0<=r->r<c-> ¬nrm n a (cnd i r)<a i i)->Ki n a i m c0=some c
 |0,c0,h1,h2,_=>by omega
 |m+1,c0,h1,h2,h=>by
  rw[Ki];by_cases e:c0=c
  ·subst e;rw[if_pos hc]
  rw[if_neg (h c0 (ac _) (by omega))];exact Hn hc m (c0+1) (by omega) (by omega) fun r h3 h4=>h r (by omega) h4
theorem Ho {n:Nat} {a:FF} {i:Nat}: ∀m c0,(∀r,c0<=r->r<c0+m-> ¬nrm n a (cnd i r)<a i i)->Ki n a i m c0=none
 |0,c0,_=>rfl
 |m+1,c0,h=>by
  rw[Ki,if_neg (h c0 (ac _) (by omega))];exact Ho m (c0+1) fun r h3 h4=>h r (by omega) (by omega)
theorem tl {n:Nat} {a:FF} {i c:Nat} (h:lh n a i=some c):VioP n a i:=by
 obtain⟨_,h2,h3⟩:=tg _ _ _ h;exact⟨c,by omega,h3⟩
def qL (n:Nat) (f:FF) (i:Nat):TV:=match lh n f i with
 |some c=> .one (.p (.sl (ls fI (bA n (cnd i c)))))
 |none=> .raw (.slice none 0 0)
def PF (i:Nat):Nat->Nat->Int
 |0=>cnd i 0
 |c+1=>O2 i c
theorem Oz {i c:Nat} (h:c<3^i):PF i c=cnd i c:=by
 cases c with
 |zero=>rfl
 |succ c=>rw[PF,O2,if_pos h]
def Gd (j:Nat):Nat->Int:=fun b=>if b<j then -1 else 0
theorem Ig (j:Nat):(fun b=>if b=j then -1 else Gd j b)=Gd (j+1):=by
 funext b;unfold Gd;by_cases h:b=j
 ·subst h;rw[if_pos rfl,if_pos (by omega)]
 by_cases h2:b<j
 ·rw[if_neg h,if_pos h2,if_pos (by omega)]
 rw[if_neg h,if_neg h2,if_neg (by omega)]
theorem Lq (i:Nat):(fun b=>if b=i then 1 else Gd i b)=cnd i 0:=by
 funext b;unfold Gd cnd;by_cases h:b=i
 ·subst h;rw[if_pos rfl,if_neg (by omega),if_pos rfl]
 by_cases h2:b<i
 ·rw[if_neg h,if_pos h2,if_pos h2];unfold dg;rw[Nat.zero_div];rfl
 rw[if_neg h,if_neg h2,if_neg h2,if_neg h]
structure Qb (n:Nat) (f:FF) (i:Nat) where
 c:Nat
 hc:c<=3^i
 ok: ∀r,r<c-> ¬nrm n f (cnd i r)<f i i
theorem KQ (i c j:Nat): -1<=cnd i c j/\cnd i c j<=1:=G3 i c j
theorem um (n:Nat) (f:FF) (i:Nat) (hi:i<n) (hn:n<=4) (hf: ∀i j,i<n->j<n-> -1125899906842624<=f i j/\f i j<=1125899906842624):
  CallC Tryz.prog 39 [slI (mat n n f),.raw (.int .i64 (i:Int))] ⟨[],qL n f i⟩:=by
 have hml:=bf n n f;have hri:=bv n f hi;have hii:=aT (f i) hi;refine aI Tryz.func39 rfl (by kernel_rfl) ?_;rw[Tryz.ntmps39];refine aD fun _ K=>?_;simp only[kd,slI,aa,ae];apply K
 refine aD fun _ K=>?_;simp(disch:=omega) only[kd,jD,aa,hml];apply K
 refine bo.weak (aE (tm:=(slI (mat n n f)::rN i::jk::jk::jk::.one (.sl 10 0 0 n)::j16 (j16 (jk::[])))) (l:=[(10,[⟨2,1,lc fI (bA n (Gd 0))⟩])]) ⟨?_,trivial⟩ (by simp[wk])) ?_
 ·rw[PA (X:=Gd 0) fun j _=>if_neg (by omega)];rfl
 refine aF (aD fun _ K=>?_);simp only[kd,slI];apply K;refine aX (G:=jA i) (fun g=>⟨(slI (mat n n f)::rN i::jk::jk::jk::.one (.sl 10 0 0 n)::rN g.i::j16 (j16 ([]))),Hm [(10,[⟨2,1,lc fI (bA n (Gd g.i))⟩])]⟩) (fun g=>i-g.i) ⟨0,by omega⟩ ?_ ?_
 ·refine aE ⟨rfl,trivial⟩ ?_;simp[wk]
 rintro⟨j,hj⟩;simp only;by_cases hm:j<i
 ·have g1:=aT (m:=n) (Gd j) (j:=j) (by omega);have s1:=nt n j (Gd j) (-1);rw[Ig]at s1;have e1:IntKind.i64.wrap ((j:Int)+1)=((j+1:Nat):Int):=by rw[show(j:Int)+1=((j+1:Nat):Int) by omega];exact aO (by omega) (by omega)
  refine aF (aD fun _ K=>?_);simp(disch:=omega) only[kd,jD,aa,slI];apply K;refine aU rfl (aM ?_);refine aF (aK ?_);refine aL fun _ K=>?_;simp(disch:=omega) only[kd,jD,aa,g1,s1];apply K
  show bo _ _ _ _;refine aL fun _ K=>?_;simp only[kd,aa,e1];apply K
  refine⟨⟨j+1,by omega⟩,by simp only;omega,aE ⟨rfl,trivial⟩ ?_⟩;simp[wk]
 have hji:j=i:=by omega
 subst hji;have g1:=aT (m:=n) (Gd j) (j:=j) (by omega);have s1:=nt n j (Gd j) 1;rw[Lq]at s1;refine aF (aD fun _ K=>?_);simp(disch:=omega) only[kd,jD,aa,slI];apply K;refine aQ rfl (bN ?_);show bo _ _ _ _;refine aD fun _ K=>?_;simp(disch:=omega) only[kd,jD,aa,g1,s1];apply K
 refine aF (aD fun _ K=>?_);simp only[kd];apply K;refine aX (G:=Qb n f j) (fun g=>⟨(slI (mat n n f)::rN j::jk::jk::jk::.one (.sl 10 0 0 n)::jk::.raw (.bool (decide (g.c<3^j)))::j16 (j4 (j4 (j4 (jk::jk::jk::[]))))),Hm [(10,[⟨2,1,lc fI (bA n (PF j g.c))⟩])]⟩) (fun g=>3^j-g.c) ⟨0,Nat.zero_le _,fun r hr=>by omega⟩ ?_ ?_
 ·have h3:0<3^j:=Nat.pow_pos (by omega);refine aE ⟨rfl,trivial⟩ ?_;simp[wk,h3]
 rintro⟨c,hc,ok⟩;simp only;by_cases hlt:c<3^j
 ·have hN:=LU n f (cnd j c) (by omega) hn hf (KQ j c);rw[Oz hlt,decide_eq_true hlt];by_cases hv:nrm n f (cnd j c)<f j j
  ·have hF:lh n f j=some c:=Hn hv _ 0 (by omega) (by omega) fun r _ hr=>ok r hr
   have eR:qL n f j= .one (.p (.sl (ls fI (bA n (cnd j c))))):=by unfold qL;rw[hF]
   rw[eR];refine aF (aD fun _ K=>?_);simp only[kd,slI];apply K;refine aU rfl (aM ?_);refine aF (aK ?_);refine bu be [⟨2,_,_,_,hN⟩] [] (by kernel_rfl) fun _ K=>?_;simp(disch:=omega) only[kd,jD,slI,iP,aa,gW,hri,fR,hii];apply K
   refine aU rfl ?_;refine aD fun _ K=>?_;simp only[kd];apply K
   refine aH ⟨.inr rfl,iM 10 (cw rfl) ?_ rfl⟩;simp(disch:=omega) only[kd,jD,Tryz.results39,gW]
  have hW:=fun h0:0<j=>LT n j c h0 hi hn hlt
  refine aF (aD fun _ K=>?_);simp only[kd,slI];apply K;refine aU rfl (aM ?_);refine aF (aK ?_);refine bu be [⟨2,_,_,_,hN⟩] [] (by kernel_rfl) fun _ K=>?_;simp(disch:=omega) only[kd,jD,slI,iP,aa,gW,hri,fR,hii];apply K
  refine aQ rfl (aM ?_);show bo _ _ _ _;have hok: ∀r,r<c+1-> ¬nrm n f (cnd j r)<f j j:=fun r hr=>by
   by_cases e:r=c
   ·subst e;exact hv
   exact ok r (by omega)
  by_cases h0:0<j
  ·have hw:=hW h0
   ((refine sE 3 hw 10 0 [] [] (by simp[wk]) (by omega) (lH rfl) (dp _ _) (by simp[wk]) (by decide) fun K hK=>?_);simp(disch:=omega) only[kd,jD,aa];apply hK;refine⟨⟨rfl,rfl⟩,by simp,?_⟩;intro K hK;simp only[kd,aa,M4,cwD];apply hK)
   refine⟨⟨c+1,by omega,hok⟩,by simp only;omega,aE ⟨rfl,trivial⟩ ?_⟩;simp[wk]
  have hj0:j=0:=by omega
  subst hj0;have hc0:c=0:=by simpa using hlt
  subst hc0;have hw:=zzZ;refine j8 [⟨3,_,_,_,hw⟩] [] fun _ K=>?_;simp(disch:=omega) only[kd,jD,aa];apply K
  refine⟨⟨1,by simp,hok⟩,by simp,aE ⟨?_,trivial⟩ ?_⟩
  ·have e:PF 0 1=cnd 0 0:=by
    funext b;simp[PF,O2]
   rw[e];rfl
  simp[wk]
 have hF:lh n f j=none:=Ho _ 0 fun r _ hr=>ok r (by omega)
 have eR:qL n f j= .raw (.slice none 0 0):=by unfold qL;rw[hF]
 rw[eR,decide_eq_false hlt];refine aF (aD fun _ K=>?_);simp only[kd,slI];apply K;refine aQ rfl (bN ?_);show bo _ _ _ _;refine aD fun _ K=>?_;simp only[kd];apply K
 (refine aH ⟨.inr rfl,aJ rfl ?_ rfl⟩;simp(disch:=omega) only[kd,jD,Tryz.results39])
structure QP (M:List (List Int)) where
 i:Nat
 hi:i<=M.length
 ok: ∀a,a<i-> ¬VioP M.length (ent M) a
 ok2: ∀a,a+1<i->ent M a a<=ent M (a+1) (a+1)/\0<=ent M a (a+1)
theorem pD (M:List (List Int)) (r:Bool) (hr:r=true↔wS M):CallC Tryz.prog 15 [slI M] ⟨[],.raw (.bool r)⟩:=by
 by_cases hB:O8 M
 ·have cB:=uk M true (by simp[hB]);have hn1:=hB.1.1;have hn4:=hB.1.2;have eM:M=mat M.length M.length (ent M):=rT (M:=M) (m:=M.length) fun q hq=>(hB.2 q hq).1
  have cO:=AL M.length M.length (ent M) hn1 (by omega) hn1 (by omega) fun i j hi hj=>by have:=hB.entB hi hj;omega
  obtain⟨e,he,cV⟩:=kO M.length M.length (ent M) hn1 (by omega) hn1 (by omega) fun i j hi hj=>GQ (hB.entB hi hj)
  rw[<- eM]at cO cV;by_cases hP:PD (ent M) M.length
  ·have he0:e=0:=he.2 ⟨rfl,by omega,(BY.1 hP).1,(BY.1 hP).2⟩;subst he0;refine aI Tryz.func15 rfl (by kernel_rfl) ?_;rw[Tryz.ntmps15];refine aD fun _ K=>?_;simp only[kd,slI,ae];apply K
   refine aF (aG [⟨1,_,_,_,cB⟩,⟨5,_,_,_,cO⟩,⟨6,_,_,_,cV⟩] [] fun _ K=>?_);simp(disch:=omega) only[kd,jD,slI,aa,Nat.reduceBEq];apply K;refine aQ rfl (aM ?_);show bo _ _ _ _;refine aF (aD fun _ K=>?_);simp only[kd,aa];apply K;refine aX (G:=QP M) (fun g=>⟨(slI M::j4 (j4 (j4 (jk::rN M.length::rN g.i::j16 (j16 (j4 (j4 (jk::[])))))))),Hm []⟩) (fun g=>M.length-g.i) ⟨0,by omega,fun a ha=>by omega,fun a ha=>by omega⟩ ?_ ?_
   ·refine aE trivial ?_;simp[wk]
   rintro⟨i,hi,ok,ok2⟩;simp only;by_cases hm:i<M.length
   ·have cS:=um M.length (ent M) i hm hn4 fun i j hi hj=>hB.entB hi hj
    rw[<- eM]at cS;have key: ∀z:TV,qL M.length (ent M) i=z->CallC Tryz.prog 39 [slI M,.raw (.int .i64 (i:Int))] ⟨[],z⟩:=fun z hz=>hz▸cS
    cases i with
    |zero=>
     cases hF:lh M.length (ent M) 0 with
     |some c=>
      have hr0:r=false:=by
       cases r with
       |false=>rfl
       |true=>exact absurd (tl hF) ((hr.1 rfl).2.2 0 hm)
      subst hr0;obtain⟨q,hq⟩: ∃q,q=bA M.length (cnd 0 c):=⟨_,rfl⟩;have cS:=key (.one (.p (.sl (ls fI q)))) (by unfold qL;rw[hF,hq]);obtain⟨y,l,hyl⟩: ∃y l,q=y::l:=by
       cases q with
       |nil=>have:=congrArg List.length hq;rw[bs]at this;simp at this;omega
       |cons y l=>exact⟨y,l,rfl⟩
      rw[hyl,show ls fI (y::l)=fI y::ls fI l from rfl]at cS;refine aD fun _ K=>?_;simp(disch:=omega) only[kd,jD,slI];apply K
      refine bx rfl ?_;refine aF (aK ?_);refine aD fun _ K=>?_;simp only[kd];apply K
      refine bu be [⟨35,_,_,_,cS⟩] [] (by kernel_rfl) fun _ K=>?_;simp(disch:=omega) only[kd,jD,slI,aa];apply K
      refine aU rfl ?_;refine aD fun _ K=>?_;simp only[kd];apply K
      (refine aH ⟨.inr rfl,aJ rfl ?_ rfl⟩;simp(disch:=omega) only[kd,jD,Tryz.results15])
     |none=>
      have cS:=key (.raw (.slice none 0 0)) (by unfold qL;rw[hF]);have hnv:=mq hF;refine aD fun _ K=>?_;simp(disch:=omega) only[kd,jD,slI];apply K
      refine bx rfl ?_;refine aF (aK ?_);refine aD fun _ K=>?_;simp only[kd];apply K
      refine bu be [⟨35,_,_,_,cS⟩] [] (by kernel_rfl) fun _ K=>?_;simp(disch:=omega) only[kd,jD,slI,aa];apply K
      refine aQ rfl (aM ?_);show bo _ _ _ _;refine aL fun _ K=>?_;simp(disch:=omega) only[kd,jD,aO];apply K
      refine⟨⟨1,by omega,fun a ha=>?_,fun a ha=>by omega⟩,by simp only;omega,aE trivial ?_⟩
      ·have:a=0:=by omega
       subst this;exact hnv
      simp[wk]
    |succ i=>
     have gt:(0:Int)<((i+1:Nat):Int):=by omega
     have e0:IntKind.i64.wrap (((i+1:Nat):Int)-1)=(i:Int):=by rw[show((i+1:Nat):Int)-1=(i:Int) by omega];exact aO (by omega) (by omega)
     have m1:=bv M.length (ent M) (show i<M.length by omega);have m2:=bv M.length (ent M) hm;rw[<- eM]at m1 m2;have q1:=aT (ent M i) (show i<M.length by omega);have q2:=aT (ent M (i+1)) hm;have q3:=aT (ent M i) hm;by_cases hd:ent M (i+1) (i+1)<ent M i i
     ·have hr0:r=false:=by
       cases r with
       |false=>rfl
       |true=>have:=((hr.1 rfl).2.1 i hm).1;omega
      subst hr0;refine aD fun _ K=>?_;simp(disch:=omega) only[kd,jD,slI];apply K
      refine bx rfl ?_;refine aF (aK ?_);refine aD fun _ K=>?_;simp only[kd];apply K
      refine cx be (by kernel_rfl) fun _ K=>?_;simp(disch:=omega) only[kd,jD,aa,gt,m2,fR,q2,e0,m1,q1,hd,reduceCtorEq];apply K
      refine aU rfl ?_;refine aD fun _ K=>?_;simp only[kd];apply K
      (refine aH ⟨.inr rfl,aJ rfl ?_ rfl⟩;simp(disch:=omega) only[kd,jD,Tryz.results15])
     by_cases hs:ent M i (i+1)<0
     ·have hr0:r=false:=by
       cases r with
       |false=>rfl
       |true=>have:=((hr.1 rfl).2.1 i hm).2;omega
      subst hr0;refine aD fun _ K=>?_;simp(disch:=omega) only[kd,jD,slI];apply K
      refine bx rfl ?_;refine aF (aK ?_);refine aD fun _ K=>?_;simp only[kd];apply K
      refine cx be (by kernel_rfl) fun _ K=>?_;simp(disch:=omega) only[kd,jD,aa,gt,m2,fR,q2,e0,m1,q1,hd,q3,hs,reduceCtorEq];apply K
      refine aU rfl ?_;refine aD fun _ K=>?_;simp only[kd];apply K
      (refine aH ⟨.inr rfl,aJ rfl ?_ rfl⟩;simp(disch:=omega) only[kd,jD,Tryz.results15])
     cases hF:lh M.length (ent M) (i+1)with
     |some c=>
      have hr0:r=false:=by
       cases r with
       |false=>rfl
       |true=>exact absurd (tl hF) ((hr.1 rfl).2.2 (i+1) hm)
      subst hr0;obtain⟨q,hq⟩: ∃q,q=bA M.length (cnd (i+1) c):=⟨_,rfl⟩;have cS:=key (.one (.p (.sl (ls fI q)))) (by unfold qL;rw[hF,hq]);obtain⟨y,l,hyl⟩: ∃y l,q=y::l:=by
       cases q with
       |nil=>have:=congrArg List.length hq;rw[bs]at this;simp at this;omega
       |cons y l=>exact⟨y,l,rfl⟩
      rw[hyl,show ls fI (y::l)=fI y::ls fI l from rfl]at cS;refine aD fun _ K=>?_;simp(disch:=omega) only[kd,jD,slI];apply K
      refine bx rfl ?_;refine aF (aK ?_);refine aD fun _ K=>?_;simp only[kd];apply K
      refine bu be [⟨35,_,_,_,cS⟩] [] (by kernel_rfl) fun _ K=>?_;simp(disch:=omega) only[kd,jD,slI,aa,gt,m2,fR,q2,e0,m1,q1,hd,q3,hs];apply K
      refine aU rfl ?_;refine aD fun _ K=>?_;simp only[kd];apply K
      (refine aH ⟨.inr rfl,aJ rfl ?_ rfl⟩;simp(disch:=omega) only[kd,jD,Tryz.results15])
     |none=>
      have cS:=key (.raw (.slice none 0 0)) (by unfold qL;rw[hF]);have hnv:=mq hF;refine aD fun _ K=>?_;simp(disch:=omega) only[kd,jD,slI];apply K
      refine bx rfl ?_;refine aF (aK ?_);refine aD fun _ K=>?_;simp only[kd];apply K
      refine bu be [⟨35,_,_,_,cS⟩] [] (by kernel_rfl) fun _ K=>?_;simp(disch:=omega) only[kd,jD,slI,aa,gt,m2,fR,q2,e0,m1,q1,hd,q3,hs];apply K
      refine aQ rfl (aM ?_);show bo _ _ _ _;refine aL fun _ K=>?_;simp(disch:=omega) only[kd,jD,aO];apply K
      refine⟨⟨i+1+1,by omega,fun a ha=>?_,fun a ha=>?_⟩,by simp only;omega,aE trivial ?_⟩
      ·by_cases e:a=i+1
       ·subst e;exact hnv
       exact ok a (by omega)
      ·by_cases e:a=i
       ·subst e;exact⟨by omega,by omega⟩
       exact ok2 a (by omega)
      simp[wk]
   have hr1:r=true:=hr.2 ⟨tn.2 ⟨hB,hP⟩,fun a ha=>ok2 a (by omega),fun a ha=>ok a (by omega)⟩;subst hr1;refine aD fun _ K=>?_;simp(disch:=omega) only[kd,jD,slI];apply K
   refine bG rfl ?_;show bo _ _ _ _;refine aD fun _ K=>?_;simp only[kd];apply K
   (refine aH ⟨.inr rfl,aJ rfl ?_ rfl⟩;simp(disch:=omega) only[kd,jD,Tryz.results15])
  have he0:e≠0:=fun h=>hP (BY.2 ⟨(he.1 h).2.2.1,(he.1 h).2.2.2⟩)
  have hr0:r=false:=by
   cases r with
   |false=>rfl
   |true=>exact absurd (tn.1 (hr.1 rfl).1).2 hP
  subst hr0;refine aI Tryz.func15 rfl (by kernel_rfl) ?_;rw[Tryz.ntmps15];refine aD fun _ K=>?_;simp only[kd,slI,ae];apply K
  refine aF (aG [⟨1,_,_,_,cB⟩,⟨5,_,_,_,cO⟩,⟨6,_,_,_,cV⟩] [] fun _ K=>?_);simp(disch:=omega) only[kd,jD,slI,aa,Nat.reduceBEq,he0];apply K;refine aU rfl ?_;refine aD fun _ K=>?_;simp only[kd];apply K
  (refine aH ⟨.inr rfl,aJ rfl ?_ rfl⟩;simp(disch:=omega) only[kd,jD,Tryz.results15])
 have hr0:r=false:=by
  cases r with
  |false=>rfl
  |true=>exact absurd (tn.1 (hr.1 rfl).1).1 hB
 subst hr0;have cB:=uk M false (by simp[hB]);refine aI Tryz.func15 rfl (by kernel_rfl) ?_;rw[Tryz.ntmps15];refine aD fun _ K=>?_;simp only[kd,slI,ae];apply K
 refine aF (aG [⟨1,_,_,_,cB⟩] [] fun _ K=>?_);simp(disch:=omega) only[kd,jD,slI,aa,reduceCtorEq,Nat.reduceBEq];apply K;refine aU rfl ?_;refine aD fun _ K=>?_;simp only[kd];apply K
 (refine aH ⟨.inr rfl,aJ rfl ?_ rfl⟩;simp(disch:=omega) only[kd,jD,Tryz.results15])
end Go.Proofs.YtfgeomlagfomgaaGreatDoor
