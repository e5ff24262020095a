/-
  Part 11 of a proof (walks and plain facts).
-/
import Derived.Test.YtpgghglbpcabkaaGreatP09
set_option linter.all false
set_option maxRecDepth 100000
set_option maxHeartbeats 64000000
namespace Go.Proofs.YtpgghglbpcabkaaGreat
open Go.RowKit
def rX (F:Nat->Int):Nat->Int
 |0=>0
 |k+1=>rX F k+F k
theorem ke {F G:Nat->Int}: ∀k,(∀p,p<k->F p=G p)->rX F k=rX G k
 |0,_=>rfl
 |k+1,h=>by rw[rX,rX,ke k (fun p hp=>h p (by omega)),h k (by omega)]
theorem wH (F G:Nat->Int): ∀k,rX (fun p=>F p+G p) k=rX F k+rX G k
 |0=>rfl
 |k+1=>by rw[rX,rX,rX,wH F G k];omega
theorem s8: ∀k,rX (fun _=>0) k=0
 |0=>rfl
 |k+1=>by rw[rX,s8 k];rfl
theorem rD {F:Nat->Int} {a:Nat}: ∀{k},a<k->(∀p,p<k->p≠a->F p=0)->rX F k=F a
 |k+1,h,h0=>by
  by_cases e:a=k
  ·subst e
   rw[rX,ke a (G:=fun _=>0) (fun p hp=>h0 p (by omega) (by omega)),s8];omega
  ·rw[rX,rD (show a<k by omega) (fun p hp hn=>h0 p (by omega) hn),h0 k (by omega) (by omega)];omega
theorem sB {k:Nat} (x y:Nat->Int): ∀l,l<=k->fj (da k x) (da k y) l=rX (fun p=>x p*y p) l
 |0,_=>rfl
 |l+1,h=>by
  show fj (da k x) (da k y) l+(da k x).getD l 0*(da k y).getD l 0=_
  rw[sB x y l (by omega),List.getD_eq_getElem?_getD,List.getD_eq_getElem?_getD,ce _ (by omega),ce _ (by omega)]
  rfl
theorem tp (k:Nat) (f g:Nat->Nat->Int) (i j:Nat):Br k f g i j=rX (fun p=>f i p*g p j) k:=sB _ _ k (Nat.le_refl _)
def E9 (i j:Nat) (c:Int):Nat->Nat->Int:=upd wZ j i c
def Fu (m:Nat):Nat->Nat->Int:=fun a=>wZ (kf m a)
theorem wQ (m a:Nat):kf m (kf m a)=a:=by
 unfold kf
 by_cases h1:a=m
 ·subst h1;simp
 ·by_cases h2:a=m+1
  ·subst h2;simp
  ·simp[h1,h2]
theorem DT {i j:Nat} {c:Int} (hji:j≠i) (p b:Nat):E9 i j c p b=wZ p b+(if p=j then(if b=i then c else 0)else 0):=by
 unfold E9 upd wZ
 by_cases h1:p=j
 ·subst h1
  by_cases h2:b=i
  ·subst h2;simp[hji]
  ·simp[h2]
 ·simp[h1]
theorem zB {n:Nat} {y:Nat->Int} {b:Nat} (hb:b<n):rX (fun p=>y p*wZ p b) n=y b:=by
 rw[rD hb (fun p hp hn=>by simp[wZ,hn])];simp[wZ]
theorem Ep {n i j:Nat} {c:Int} (hji:j≠i) (hj:j<n) (x:Nat->Nat->Int) (a b:Nat) (hb:b<n):Br n x (E9 i j c) a b=x a b+(if b=i then c*x a j else 0):=by
 rw[tp,ke n (G:=fun p=>x a p*wZ p b+x a p*(if p=j then(if b=i then c else 0)else 0)) (fun p _=>by rw[DT hji,Int.mul_add]),wH,zB hb]
 congr 1
 rw[rD hj (fun p _ hn=>by simp[hn])]
 by_cases h:b=i
 ·simp[h,Int.mul_comm]
 ·simp[h]
theorem Cz (m p b:Nat):wZ (kf m p) b=wZ p (kf m b):=by
 unfold wZ
 have:kf m p=b↔p=kf m b:=⟨fun h=>by rw[<- h,wQ],fun h=>by rw[h,wQ]⟩
 simp only[this]
theorem DU {n m:Nat} (hm:m+1<n) (x:Nat->Nat->Int) (a b:Nat) (hb:b<n):Br n x (Fu m) a b=x a (kf m b):=by
 rw[tp,ke n (G:=fun p=>x a p*wZ p (kf m b)) (fun p _=>by rw[<- Cz];rfl),zB (kz hm hb)]
/-! Which change is made. -/
inductive Ch where
 |add (i j:Nat)
 |swp (m:Nat)
instance (f:Nat->Nat->Int) (i j:Nat):Decidable (jo f i j):=by unfold jo;exact inferInstance
instance (f:Nat->Nat->Int) (i:Nat):Decidable (pz f i):=by unfold pz;exact inferInstance
def qX (f:Nat->Nat->Int) (i:Nat):Nat->Option Nat
 |0=>none
 |j+1=>if jo f i j then qX f i j else some j
def w8 (f:Nat->Nat->Int):Nat->Nat->Option Ch
 |0,_=>none
 |m+1,i=>match qX f i i with
  |some j=>some (.add i j)
  |none=>if 0<i/\ ¬pz f i then some (.swp (i-1))else w8 f m (i+1)
def uh (f:Nat->Nat->Int) (n:Nat):Option Ch:=w8 f n 0
theorem kB {f:Nat->Nat->Int} {i:Nat}: ∀{k},qX f i k=none-> ∀j,j<k->jo f i j
 |k+1,h,j,hj=>by
  unfold qX at h
  split at h
  ·rename_i hs
   by_cases e:j=k
   ·subst e;exact hs
   ·exact kB h j (by omega)
  ·cases h
theorem n7 {f:Nat->Nat->Int} {i j:Nat}: ∀{k},qX f i k=some j->j<k/\ ¬jo f i j/\ ∀j',j<j'->j'<k->jo f i j'
 |k+1,h=>by
  unfold qX at h
  split at h
  ·rename_i hs
   obtain⟨h1,h2,h3⟩:=n7 h
   refine⟨by omega,h2,fun j' g1 g2=>?_⟩
   by_cases e:j'=k
   ·subst e;exact hs
   ·exact h3 j' g1 (by omega)
  ·rename_i hs
   injection h with h
   subst h
   exact⟨by omega,hs,fun j' g1 g2=>by omega⟩
def oF (f:Nat->Nat->Int) (i:Nat):Prop:=(∀j,j<i->jo f i j)/\(0<i->pz f i)
def Fa (f:Nat->Nat->Int):Ch->Prop
 | .add i j=>j<i/\ ¬jo f i j/\(∀j',j<j'->j'<i->jo f i j')/\ ∀i',i'<i->oF f i'
 | .swp m=> ¬pz f (m+1)/\(∀j,j<m+1->jo f (m+1) j)/\ ∀i',i'<m+1->oF f i'
def xk:Ch->Nat
 | .add i _=>i
 | .swp m=>m+1
theorem pq {f:Nat->Nat->Int} {c:Ch}: ∀{m i},(∀i',i'<i->oF f i')->w8 f m i=some c->Fa f c/\xk c<i+m
 |m+1,i,hi,h=>by
  unfold w8 at h
  split at h
  ·rename_i j hj
   injection h with h
   subst h
   obtain⟨h1,h2,h3⟩:=n7 hj
   exact⟨⟨h1,h2,h3,hi⟩,by simp[xk]⟩
  ·rename_i hj
   split at h
   ·rename_i hl
    injection h with h
    subst h
    have e:i-1+1=i:=by omega
    refine⟨⟨by rw[e];exact hl.2,by rw[e];exact kB hj,by rw[e];exact hi⟩,by simp[xk];omega⟩
   ·rename_i hl
    have:=pq (m:=m) (i:=i+1) (fun i' h'=>by
     by_cases e:i'=i
     ·subst e
      exact⟨kB hj,fun h0=>by
       by_cases hL:pz f i'
       ·exact hL
       ·exact absurd ⟨h0,hL⟩ hl⟩
     ·exact hi i' (by omega)) h
    exact⟨this.1,by omega⟩
theorem jf {f:Nat->Nat->Int} {n:Nat} {c:Ch} (h:uh f n=some c):Fa f c/\xk c<n:=by
 have:=pq (f:=f) (m:=n) (i:=0) (fun i' h=>by omega) h
 exact⟨this.1,by omega⟩
def ou (i:Nat):Nat:=i*(i-1)/2
def tc:Ch->Nat
 | .add i j=>ou i+(i-1-j)
 | .swp m=>ou (m+2)
theorem iD (i:Nat):ou (i+1)=ou i+i:=by
 unfold ou
 cases i with
 |zero=>rfl
 |succ i=>
  rw[Nat.add_sub_cancel,Nat.add_sub_cancel]
  have:(i+1+1)*(i+1)=(i+1)*i+2*(i+1):=by rw[Nat.add_mul,Nat.one_mul,Nat.mul_add,Nat.mul_add,Nat.add_mul];omega
  rw[this,Nat.add_mul_div_left _ _ (by omega)]
theorem gA {i j:Nat} (h:i<=j):ou i<=ou j:=by
 induction j with
 |zero=>have:i=0:=(by omega);subst this;exact Nat.le_refl _
 |succ j ih=>
  by_cases e:i=j+1
  ·subst e;exact Nat.le_refl _
  ·have:=ih (by omega);rw[iD];omega
def rankF (f:Nat->Nat->Int) (n:Nat):Nat:=match uh f n with
 |some c=>tc c
 |none=>ou n
theorem zR (f:Nat->Nat->Int) (n:Nat):rankF f n<=ou n:=by
 unfold rankF
 split
 ·rename_i c hc
  obtain⟨h1,h2⟩:=jf hc
  cases c with
  |add i j=>
   have h2:i<n:=h2
   have:=gA (show i+1<=n by omega)
   rw[iD]at this
   obtain⟨h1,_⟩:=h1
   simp only[tc];omega
  |swp m=>
   have h2:m+1<n:=h2
   exact gA (show m+2<=n by omega)
 ·exact Nat.le_refl _
theorem CF {f:Nat->Nat->Int} {n i j:Nat} (hj:j<i) (hi:i<n) (h1: ∀i',i'<i->oF f i') (h2: ∀j',j<=j'->j'<i->jo f i j'):ou i+(i-1-j)<rankF f n:=by
 have hni:=gA (show i+1<=n by omega)
 rw[iD]at hni
 unfold rankF
 split
 ·rename_i c hc
  obtain⟨g1,g2⟩:=jf hc
  cases c with
  |add i' j'=>
   obtain⟨a1,a2,a3,a4⟩:=g1
   simp only[tc]
   rcases Nat.lt_trichotomy i' i with h|h|h
   ·exact absurd ((h1 i' h).1 j' a1) a2
   ·subst h
    by_cases e:j<=j'
    ·exact absurd (h2 j' e a1) a2
    ·omega
   ·have:=gA (show i+1<=i' by omega)
    rw[iD]at this
    omega
  |swp m=>
   obtain⟨a1,a2,a3⟩:=g1
   simp only[tc]
   by_cases h:m+1<i
   ·exact absurd ((h1 (m+1) h).2 (by omega)) a1
   ·have:=gA (show i+1<=m+2 by omega)
    rw[iD]at this
    omega
 ·omega
section
theorem tb {B:Nat} {d1 d0 x y u v:Int} (h1:0<d1) (h0:d0.natAbs<=B) (h:d1*x=d0*y+u*v):x.natAbs<=B*y.natAbs+u.natAbs*v.natAbs:=by
 have e1:d1.natAbs*x.natAbs=(d0*y+u*v).natAbs:=by rw[<- Int.natAbs_mul,h]
 have e2:=Int.natAbs_add_le (d0*y) (u*v)
 rw[Int.natAbs_mul,Int.natAbs_mul]at e2
 have e3:d0.natAbs*y.natAbs<=B*y.natAbs:=Nat.mul_le_mul_right _ h0
 have e4:x.natAbs<=d1.natAbs*x.natAbs:=Nat.le_mul_of_pos_left _ (by omega)
 omega
theorem BH {d1 d0 x y l:Int} (h1:0<d1) (h0:0<d0) (hx:0<x) (hy:0<y) (h:d1*x=d0*y+l*l):d1.natAbs*x.natAbs=d0.natAbs*y.natAbs+l.natAbs*l.natAbs:=by
 apply Int.ofNat_inj.1
 rw[Int.natCast_add,Int.natCast_mul,Int.natCast_mul,Int.natCast_mul,Int.natAbs_of_nonneg (by omega),Int.natAbs_of_nonneg (by omega),Int.natAbs_of_nonneg (by omega),Int.natAbs_of_nonneg (by omega),Int.natAbs_mul_self',h]
structure Def (f:Nat->Nat->Int) (n B:Nat):Prop where
 sym:SymF f n
 pos: ∀t,t<n->0<dk f (t+1)
 le: ∀k,k<=n->(dk f k).natAbs<=B
section
variable {f:Nat->Nat->Int} {n B:Nat}
theorem Def.ne (h:Def f n B): ∀t,t<n->dk f (t+1)≠0:=fun t ht=>by have:=h.pos t ht;omega
theorem Def.pos0 (h:Def f n B) {k:Nat} (hk:k<=n):0<dk f k:=by
 cases k with
 |zero=>rw[j8];omega
 |succ k=>exact h.pos k (by omega)
theorem Def.sylv (h:Def f n B) {k a b:Nat} (hk:k<n) (ha:a<n) (hb:b<n):dk f (k+1)*bk f k a b=dk f k*bk f (k+1) a b+bk f k a k*bk f k b k:=by
 have s:=Go.Proofs.YtpgghglbpcabkaaGreat.sylv f k (fun t ht=>h.ne t (by omega)) a b
 rw[pp h.sym k (by omega) (fun t ht=>h.ne t (by omega)) k b hk hb]at s
 omega
theorem Def.diag (h:Def f n B) {a:Nat} (ha:a<n): ∀m k,a-k=m->k<=a->0<bk f k a a
 |0,k,hm,hk=>by
  have:k=a:=by omega
  subst this
  rw[<- cQ];exact h.pos k ha
 |m+1,k,hm,hk=>by
  have ih:=h.diag ha m (k+1) (by omega) (by omega)
  have s:=h.sylv (k:=k) (by omega) ha ha
  have p1:=h.pos k (by omega)
  have p0:=h.pos0 (k:=k) (by omega)
  have q1:=Int.mul_pos p0 ih
  have q2:0<=bk f k a k*bk f k a k:=by
   rcases Int.le_total 0 (bk f k a k)with h|h
   ·exact Int.mul_nonneg h h
   ·exact Int.mul_nonneg_of_nonpos_of_nonpos h h
  rcases Int.lt_or_le 0 (bk f k a a)with h|h
  ·exact h
  ·have:=Int.mul_nonpos_of_nonneg_of_nonpos (Int.le_of_lt p1) h
   omega
theorem Def.down (h:Def f n B) {a k:Nat} (ha:a<n) (hk:k<a):(bk f k a k).natAbs*(bk f k a k).natAbs<=B*(bk f k a a).natAbs/\(bk f (k+1) a a).natAbs<=B*(bk f k a a).natAbs:=by
 have s:=BH (h.pos k (by omega)) (h.pos0 (k:=k) (by omega)) (h.diag ha _ k rfl (by omega)) (h.diag ha _ (k+1) rfl (by omega)) (h.sylv (k:=k) (by omega) ha ha)
 have hB:=Nat.mul_le_mul_right (bk f k a a).natAbs (h.le (k+1) (by omega))
 have p0:=h.pos0 (k:=k) (by omega)
 have:=Nat.le_mul_of_pos_left (bk f (k+1) a a).natAbs (show 0<(dk f k).natAbs by omega)
 omega
theorem Def.nm (h:Def f n B) {a:Nat} (ha:a<n): ∀k,k<=a->(bk f k a a).natAbs<=B^k*(f a a).natAbs
 |0,_=>by rw[fw];simp
 |k+1,hk=>by
  have h1:=(h.down ha (show k<a by omega)).2
  have h2:=Nat.mul_le_mul_left B (h.nm ha k (by omega))
  rw[Nat.pow_succ,Nat.mul_comm (B^k) B,Nat.mul_assoc]
  omega
theorem Def.lam_le (h:Def f n B) {a k C:Nat} (ha:a<n) (hk:k<a) (hB:1<=B) (hC:(f a a).natAbs<=C):(bk f k a k).natAbs<=B^n*C:=by
 have h1:=(h.down ha hk).1
 have h2:=Nat.mul_le_mul_left B (h.nm ha k (by omega))
 have h3:(bk f k a k).natAbs<=(bk f k a k).natAbs*(bk f k a k).natAbs:=Nat.le_mul_self _
 have h4:B*(B^k*(f a a).natAbs)=B^(k+1)*(f a a).natAbs:=by rw[Nat.pow_succ,Nat.mul_comm (B^k) B,Nat.mul_assoc]
 have h5:B^(k+1)<=B^n:=Nat.pow_le_pow_right hB (by omega)
 have h6:B^(k+1)*(f a a).natAbs<=B^n*C:=Nat.mul_le_mul h5 hC
 omega
theorem Def.up (h:Def f n B) {a L:Nat} (ha:a<n) (hL: ∀k,k<a->(bk f k a k).natAbs<=L): ∀m k,a-k=m->k<=a->(bk f k a a).natAbs<=(B+L*L)*(B+1)^m
 |0,k,hm,hk=>by
  have:k=a:=by omega
  subst this
  rw[<- cQ]
  have:=h.le (k+1) (by omega)
  simp
  omega
 |m+1,k,hm,hk=>by
  have ih:=h.up ha hL m (k+1) (by omega) (by omega)
  have s:=tb (h.pos k (by omega)) (h.le k (by omega)) (h.sylv (k:=k) (by omega) ha ha)
  have hl:=hL k (by omega)
  have h2:=Nat.mul_le_mul hl hl
  have h3:=Nat.mul_le_mul_left B ih
  have h4:L*L<=(B+L*L)*(B+1)^m:=Nat.le_trans (by omega) (Nat.le_mul_of_pos_right _ (Nat.pow_pos (by omega)))
  rw[Nat.pow_succ,<- Nat.mul_assoc,Nat.mul_add,Nat.mul_one,Nat.mul_comm _ B]
  omega
theorem Def.norm_le (h:Def f n B) {a L:Nat} (ha:a<n) (hL: ∀k,k<a->(bk f k a k).natAbs<=L):(f a a).natAbs<=(B+L*L)*(B+1)^n:=by
 have h1:=h.up ha hL a 0 rfl (by omega)
 rw[fw]at h1
 exact Nat.le_trans h1 (Nat.mul_le_mul_left _ (Nat.pow_le_pow_right (by omega) (by omega)))
theorem Def.ent_up (h:Def f n B) {a b L:Nat} (ha:a<n) (hb:b<a) (hL: ∀a k,a<n->k<a->(bk f k a k).natAbs<=L): ∀m k,b-k=m->k<=b->(bk f k a b).natAbs<=(L+L*L)*(B+1)^m
 |0,k,hm,hk=>by
  have:k=b:=by omega
  subst this
  have:=hL a k ha hb
  simp
  omega
 |m+1,k,hm,hk=>by
  have ih:=h.ent_up ha hb hL m (k+1) (by omega) (by omega)
  have s:=tb (h.pos k (by omega)) (h.le k (by omega)) (h.sylv (k:=k) (a:=a) (b:=b) (by omega) ha (by omega))
  have h2:=Nat.mul_le_mul (hL a k ha (by omega)) (hL b k (by omega) (by omega))
  have h3:=Nat.mul_le_mul_left B ih
  have h4:L*L<=(L+L*L)*(B+1)^m:=Nat.le_trans (by omega) (Nat.le_mul_of_pos_right _ (Nat.pow_pos (by omega)))
  rw[Nat.pow_succ,<- Nat.mul_assoc,Nat.mul_add,Nat.mul_one,Nat.mul_comm _ B]
  omega
theorem Def.ent_le (h:Def f n B) {L:Nat} (hL: ∀a k,a<n->k<a->(bk f k a k).natAbs<=L) {a b:Nat} (ha:a<n) (hb:b<n):(f a b).natAbs<=(B+L+L*L)*(B+1)^n:=by
 have key: ∀a b,a<n->b<a->(f a b).natAbs<=(B+L+L*L)*(B+1)^n:=fun a b ha hb=>by
  have h1:=h.ent_up ha hb hL b 0 rfl (by omega)
  rw[fw]at h1
  refine Nat.le_trans h1 (Nat.mul_le_mul (by omega) (Nat.pow_le_pow_right (by omega) (by omega)))
 rcases Nat.lt_trichotomy a b with h'|h'|h'
 ·rw[h.sym a ha b hb];exact key b a hb h'
 ·subst h'
  have h1:=h.norm_le ha (fun k hk=>hL a k ha hk)
  exact Nat.le_trans h1 (Nat.mul_le_mul_right _ (by omega))
 ·exact key a b ha h'
end
/-! The numbers of the reduction. -/
section
variable {f:Nat->Nat->Int} {n B:Nat}
def cN (n B:Nat):Nat:=(B+B*B)*(B+1)^n
def l0 (n B:Nat):Nat:=B^n*cN n B
theorem oE (h:Def f n B) {i j:Nat} (hi:i<n) (hj:j<i):jo f i j↔2*((bk f j i j).natAbs:Int)<=dk f (j+1):=by
 rw[jo,vL h.pos (by omega),tl h.pos (by omega)]
theorem vO (h:Def f n B) {i:Nat} (hi:i<n) (h0:0<i):pz f i↔3*(dk f i*dk f i)<=4*(dk f (i-1)*dk f (i+1)+bk f (i-1) i (i-1)*bk f (i-1) i (i-1)):=by
 rw[pz,vL h.pos (by omega),tl h.pos (by omega),tl h.pos (by omega),tl h.pos (by omega)]
theorem vU (h:Def f n B) {i j:Nat} (hi:i<n) (hj:j<i) (hs:jo f i j):(bk f j i j).natAbs<=B:=by
 have h1:=(oE h hi hj).1 hs
 have h2:=h.le (j+1) (by omega)
 omega
theorem mg (h:Def f n B) {i:Nat} (hi:i<n) (hs: ∀j,j<i->jo f i j):(f i i).natAbs<=cN n B:=h.norm_le hi fun k hk=>vU h hi hk (hs k hk)
def Jn (f:Nat->Nat->Int) (n B:Nat):Prop:=(∀a,a<n->(f a a).natAbs<=cN n B)\/
 ∃i,i<n/\(∀a,a<n->a≠i->(f a a).natAbs<=cN n B)/\(∀i',i'<i->oF f i')/\ ∃s,s<=i/\(∀j',s<=j'->j'<i->jo f i j')/\ ∀k,k<i->(bk f k i k).natAbs+2<=(l0 n B+2)*(B+2)^(i-s)
def lM (n B:Nat):Nat:=(l0 n B+2)*(B+2)^n
theorem Jn.lam (h:Def f n B) (hB:1<=B) (hj:Jn f n B): ∀a k,a<n->k<a->(bk f k a k).natAbs<=lM n B:=by
 have h1:l0 n B<=lM n B:=Nat.le_trans (by omega) (Nat.le_mul_of_pos_right _ (Nat.pow_pos (by omega)))
 have h2: ∀e,e<=n->(l0 n B+2)*(B+2)^e<=lM n B:=fun e he=>Nat.mul_le_mul_left _ (Nat.pow_le_pow_right (by omega) he)
 rcases hj with hj|⟨i,hi,hj,_,s,hs,_,hl⟩
 ·exact fun a k ha hk=>Nat.le_trans (h.lam_le ha hk hB (hj a ha)) h1
 ·intro a k ha hk
  by_cases e:a=i
  ·subst e
   have:=hl k hk
   have:=h2 (a-s) (by omega)
   omega
  ·exact Nat.le_trans (h.lam_le ha hk hB (hj a ha e)) h1
def eN (n B:Nat):Nat:=(B+lM n B+lM n B*lM n B)*(B+1)^n
theorem Jn.ent (h:Def f n B) (hB:1<=B) (hj:Jn f n B) {a b:Nat} (ha:a<n) (hb:b<n):(f a b).natAbs<=eN n B:=h.ent_le (hj.lam h hB) ha hb
end
end
section
theorem CT {l d:Int} (hd:0<d):2*((l+ -(qF l d)*d).natAbs:Int)<=d:=by
 unfold qF
 have h1:=Int.emod_add_mul_ediv (2*l+d) (2*d)
 have h2:=Int.emod_nonneg (2*l+d) (show 2*d≠0 by omega)
 have h3:=Int.emod_lt_of_pos (2*l+d) (show 0<2*d by omega)
 generalize(2*l+d)/(2*d)=q at*
 have e:2*d*q=2*(q*d):=by rw[Int.mul_assoc,Int.mul_comm d q]
 rw[e]at h1
 have e2: -q*d= -(q*d):=Int.neg_mul q d
 rw[e2]
 omega
theorem zu {l d:Int} (hd:0<d):(qF l d).natAbs<=l.natAbs+1:=by
 unfold qF
 have h1:=Int.emod_add_mul_ediv (2*l+d) (2*d)
 have h2:=Int.emod_nonneg (2*l+d) (show 2*d≠0 by omega)
 have h3:=Int.emod_lt_of_pos (2*l+d) (show 0<2*d by omega)
 generalize(2*l+d)/(2*d)=q at*
 have e:2*d*q=2*(d*q):=Int.mul_assoc 2 d q
 rw[e]at h1
 have e2:(d*q).natAbs=d.natAbs*q.natAbs:=Int.natAbs_mul d q
 have e3:l.natAbs<=d.natAbs*l.natAbs:=Nat.le_mul_of_pos_left _ (by omega)
 rcases Nat.lt_or_ge (l.natAbs+1) q.natAbs with h|h
 ·exfalso
  have h4:=Nat.mul_le_mul_left d.natAbs (show l.natAbs+2<=q.natAbs by omega)
  rw[Nat.mul_add]at h4
  omega
 ·exact h
section
variable {f:Nat->Nat->Int} {n B:Nat}
theorem zg (hs:SymF f n) {i j:Nat} (c:Int) (hj:j<n):SymF (eP f i j c) n:=fun a ha b hb=>by
 by_cases hab:a=b
 ·subst hab;rfl
 unfold eP
 rw[hs a ha b hb]
 by_cases h1:a=i
 ·by_cases h2:b=i
  ·omega
  ·simp only[h1,h2,if_true,if_false];rw[hs j hj b hb];omega
 ·by_cases h2:b=i
  ·simp only[h1,h2,if_true,if_false];rw[hs a ha j hj];omega
  ·simp only[h1,h2,if_false]
theorem Def.add (h:Def f n B) {i j:Nat} (c:Int) (hji:j<i) (hi:i<n):Def (eP f i j c) n B:=by
 obtain⟨h1,_⟩:=gG h.sym h.ne c hji hi
 exact⟨zg h.sym c (by omega),fun t ht=>by rw[h1 (t+1) (by omega)];exact h.pos t ht,fun k hk=>by rw[h1 k hk];exact h.le k hk⟩
theorem qe (h:Def f n B) {i j:Nat} (c:Int) (hji:j<i) (hi:i<n) {i':Nat} (hi':i'<i) (hr:oF f i'):oF (eP f i j c) i':=by
 have h':=h.add c hji hi
 obtain⟨h1,h2,h3⟩:=gG h.sym h.ne c hji hi
 have hb: ∀k,k<i'->bk (eP f i j c) k i' k=bk f k i' k:=fun k hk=>by
  by_cases e:k<=j
  ·rw[h2 k i' k e,pa (by omega) (by omega)]
  ·exact h3 k i' k (by omega) (by omega) (by omega) (by omega)
 refine⟨fun k hk=>?_,fun h0=>?_⟩
 ·rw[oE h' (by omega) hk,hb k hk,h1 _ (by omega)]
  exact(oE h (by omega) hk).1 (hr.1 k hk)
 ·rw[vO h' (by omega) h0,hb _ (by omega),h1 _ (by omega),h1 _ (by omega),h1 _ (by omega)]
  exact(vO h (by omega) h0).1 (hr.2 h0)
def cF (f:Nat->Nat->Int) (i j:Nat):Int:= -(qF (lam f i j) (dd f (j+1)))
theorem Az (h:Def f n B) {i j:Nat} (hj:j<n):cF f i j= -(qF (bk f j i j) (dk f (j+1))):=by rw[cF,vL h.pos hj,tl h.pos (by omega)]
theorem rU (h:Def f n B) {i j:Nat} (hji:j<i) (hi:i<n) {j':Nat} (h1:j<=j') (h2:j'<i) (hs:j<j'->jo f i j'):jo (eP f i j (cF f i j)) i j':=by
 have h':=h.add (cF f i j) hji hi
 obtain⟨g1,g2,g3⟩:=gG h.sym h.ne (cF f i j) hji hi
 rw[oE h' hi h2,g1 _ (by omega)]
 by_cases e:j'=j
 ·subst e
  rw[g2 j' i j' (by omega)]
  have:eP (bk f j') i j' (cF f i j') i j'=bk f j' i j'+cF f i j'*dk f (j'+1):=by
   unfold eP
   have hn: ¬j'=i:=by omega
   simp only[if_true,hn,if_false]
   rw[cQ];omega
  rw[this,Az h (by omega)]
  exact CT (h.pos j' (by omega))
 ·rw[g3 j' i j' (by omega) (by omega) hi (by omega)]
  exact(oE h hi h2).1 (hs (by omega))
theorem DM (h:Def f n B) (hB:1<=B) (hJ:Jn f n B) {i j:Nat} (hF:Fa f (.add i j)) (hi:i<n):Jn (eP f i j (cF f i j)) n B:=by
 obtain⟨hji,hns,hs,hr⟩:=hF
 obtain⟨g1,g2,g3⟩:=gG h.sym h.ne (cF f i j) hji hi
 have hoff: ∀a,a≠i->eP f i j (cF f i j) a a=f a a:=fun a ha=>pa ha ha
 -- the new lambdas of row i
 have hnew: ∀M:Nat,(∀k,k<i->(bk f k i k).natAbs+2<=M)-> ∀k,k<i->(bk (eP f i j (cF f i j)) k i k).natAbs+2<=M*(B+2):=fun M hM k hk=>by
  have hMk:=hM k hk
  have hMj:=hM j hji
  have e0:M*(B+2)=M*B+2*M:=by rw[Nat.mul_add,Nat.mul_comm M 2]
  rcases Nat.lt_trichotomy k j with e|e|e
  ·rw[g2 k i k (by omega)]
   have e1:eP (bk f k) i j (cF f i j) i k=bk f k i k+cF f i j*bk f k j k:=by
    unfold eP
    have hn: ¬k=i:=by omega
    simp only[if_true,hn,if_false];omega
   rw[e1]
   have a1:=Int.natAbs_add_le (bk f k i k) (cF f i j*bk f k j k)
   rw[Int.natAbs_mul]at a1
   have a2:(cF f i j).natAbs<=(bk f j i j).natAbs+1:=by rw[Az h (by omega),Int.natAbs_neg];exact zu (h.pos j (by omega))
   have a3:(bk f k j k).natAbs<=B:=vU h (by omega) e ((hr j hji).1 k e)
   have a4:=Nat.mul_le_mul (show(cF f i j).natAbs<=M by omega) a3
   omega
  ·subst e
   have hz:=rU h hji hi (Nat.le_refl k) hk (fun h=>by omega)
   have:=vU (h.add (cF f i k) hji hi) hi hk hz
   have:B<=M*B:=Nat.le_mul_of_pos_left _ (by omega)
   omega
  ·rw[g3 k i k (by omega) (by omega) hi (by omega)]
   have:0<=M*B:=Nat.zero_le _
   omega
 have hfin: ∀M e:Nat,1<=e->e<=i-j->M*(B+2)<=(l0 n B+2)*(B+2)^e->(∀a,a<n->a≠i->(f a a).natAbs<=cN n B)->(∀k,k<i->(bk f k i k).natAbs+2<=M)->Jn (eP f i j (cF f i j)) n B:=fun M e he1 he2 hMe hA hM=>by
  refine .inr ⟨i,hi,fun a ha hne=>by rw[hoff a hne];exact hA a ha hne,fun i' hi'=>qe h _ hji hi hi' (hr i' hi'),j,by omega,fun j' h1 h2=>rU h hji hi h1 h2 (fun h3=>hs j' h3 h2),fun k hk=>?_⟩
  refine Nat.le_trans (hnew M hM k hk) (Nat.le_trans hMe (Nat.mul_le_mul_left _ (Nat.pow_le_pow_right (by omega) he2)))
 rcases hJ with hA|⟨i1,hi1,hA,hr1,s,hs1,hs2,hl⟩
 ·refine hfin (l0 n B+2) 1 (by omega) (by omega) (by rw[Nat.pow_one];exact Nat.le_refl _) (fun a ha _=>hA a ha) (fun k hk=>?_)
  have:(bk f k i k).natAbs<=l0 n B:=h.lam_le hi hk hB (hA i hi)
  omega
 ·by_cases e:i1=i
  ·subst e
   have hjs:j<s:=by
    rcases Nat.lt_or_ge j s with h'|h'
    ·exact h'
    ·exact absurd (hs2 j h' hji) hns
   refine hfin ((l0 n B+2)*(B+2)^(i1-s)) (i1-s+1) (by omega) (by omega) (by rw[Nat.pow_succ,Nat.mul_assoc];exact Nat.le_refl _) hA hl
  ·have hall:(f i1 i1).natAbs<=cN n B:=by
    rcases Nat.lt_or_ge i1 i with h'|h'
    ·exact mg h hi1 (hr i1 h').1
    ·exact absurd ((hr1 i (by omega)).1 j hji) hns
   have hA': ∀a,a<n->(f a a).natAbs<=cN n B:=fun a ha=>by
    by_cases e':a=i1
    ·subst e';exact hall
    ·exact hA a ha e'
   refine hfin (l0 n B+2) 1 (by omega) (by omega) (by rw[Nat.pow_one];exact Nat.le_refl _) (fun a ha _=>hA' a ha) (fun k hk=>?_)
   have:(bk f k i k).natAbs<=l0 n B:=h.lam_le hi hk hB (hA' i hi)
   omega
theorem p8 (h:Def f n B) {m:Nat} (hm:m+1<n) (hl: ¬pz f (m+1)):4*dk (ia f m) (m+1)<3*dk f (m+1)/\0<dk (ia f m) (m+1):=by
 obtain⟨h1,h2⟩:=o9 h.sym h.pos hm
 refine⟨?_,h2⟩
 have h3: ¬3*(dk f (m+1)*dk f (m+1))<=4*(dk f m*dk f (m+2)+bk f m (m+1) m*bk f m (m+1) m):=fun hh=>hl ((vO h hm (by omega)).2 hh)
 rw[<- h1]at h3
 have p:=h.pos m (by omega)
 rcases Int.lt_or_le (4*dk (ia f m) (m+1)) (3*dk f (m+1))with h4|h4
 ·exact h4
 ·exfalso
  have h5:=Int.mul_le_mul_of_nonneg_left h4 (Int.le_of_lt p)
  have e1:dk f (m+1)*(3*dk f (m+1))=3*(dk f (m+1)*dk f (m+1)):=Int.mul_left_comm _ _ _
  have e2:dk f (m+1)*(4*dk (ia f m) (m+1))=4*(dk f (m+1)*dk (ia f m) (m+1)):=Int.mul_left_comm _ _ _
  omega
theorem Def.swap (h:Def f n B) {m:Nat} (hm:m+1<n) (hl: ¬pz f (m+1)):Def (ia f m) n B:=by
 obtain⟨h1,_⟩:=jv h.sym h.pos hm
 obtain⟨g1,g2⟩:=p8 h hm hl
 have p:=h.pos m (by omega)
 refine⟨fun a ha b hb=>h.sym _ (kz hm ha) _ (kz hm hb),fun t ht=>?_,fun k hk=>?_⟩
 ·by_cases e:t=m
  ·subst e;exact g2
  ·rw[h1 (t+1) (by omega) (by omega)];exact h.pos t ht
 ·by_cases e:k=m+1
  ·subst e
   have:=h.le (m+1) hk
   omega
  ·rw[h1 k hk e];exact h.le k hk
theorem Cl (h:Def f n B) (hJ:Jn f n B) {m:Nat} (hF:Fa f (.swp m)) (hm:m+1<n):Jn (ia f m) n B:=by
 obtain⟨hnl,hs,hr⟩:=hF
 have hA: ∀a,a<n->(f a a).natAbs<=cN n B:=by
  rcases hJ with hA|⟨i,hi,hA,hr1,_⟩
  ·exact hA
  ·intro a ha
   by_cases e:a=i
   ·subst e
    rcases Nat.lt_trichotomy a (m+1)with h'|h'|h'
    ·exact mg h ha (hr a h').1
    ·subst h';exact mg h ha hs
    ·exact absurd ((hr1 (m+1) h').2 (by omega)) hnl
   ·exact hA a ha e
 exact .inl fun a ha=>hA _ (kz hm ha)
def prD (f:Nat->Nat->Int):Nat->Nat
 |0=>1
 |k+1=>prD f k*(dk f (k+1)).natAbs
theorem mD {g:Nat->Nat->Int}: ∀k,(∀t,t<k->dk g (t+1)=dk f (t+1))->prD g k=prD f k
 |0,_=>rfl
 |k+1,h=>by rw[prD,prD,mD k (fun t ht=>h t (by omega)),h k (by omega)]
theorem zK (h:Def f n B): ∀k,k<=n->prD f k<=B^k
 |0,_=>by simp[prD]
 |k+1,hk=>by rw[prD,Nat.pow_succ];exact Nat.mul_le_mul (zK h k (by omega)) (h.le (k+1) hk)
theorem tK (h:Def f n B) {m:Nat} (hm:m+1<n) (hl: ¬pz f (m+1)): ∀k,m<k->k<=n->4*prD (ia f m) k<=3*prD f k
 |k+1,hk,hkn=>by
  obtain⟨h1,_⟩:=jv h.sym h.pos hm
  obtain⟨g1,g2⟩:=p8 h hm hl
  have p:=h.pos m (by omega)
  rw[prD,prD]
  by_cases e:k=m
  ·subst e
   rw[mD k (fun t ht=>h1 (t+1) (by omega) (by omega)),Nat.mul_left_comm,Nat.mul_left_comm 3]
   exact Nat.mul_le_mul_left _ (by omega)
  ·have ih:=tK h hm hl k (by omega) (by omega)
   rw[h1 (k+1) hkn (by omega),<- Nat.mul_assoc,<- Nat.mul_assoc]
   exact Nat.mul_le_mul_right _ ih
end
/-! Bounds of the minors of a matrix of small entries. -/
theorem AP {r:Nat->Int} (hr: ∀c,(r c).natAbs<=9) {M:Nat}: ∀(cs:List Nat) (N:Nat) (F:List Nat->Int),cs.length<=N->(∀l,l.length<=N->(F l).natAbs<=M)->(dn r F cs).natAbs<=cs.length*(9*M)
 |[],_,_,_,_=>by simp[dn]
 |c::cs,N,F,hN,hF=>by
  rw[dn]
  have h1:=Int.natAbs_sub_le (r c*F cs) (dn r (fun l=>F (c::l)) cs)
  have h2:=AP hr cs (N-1) (fun l=>F (c::l)) (by simp at hN;omega) (fun l hl=>hF (c::l) (by simp at hN⊢;omega))
  rw[Int.natAbs_mul]at h1
  have h3:=Nat.mul_le_mul (hr c) (hF cs (by simp at hN;omega))
  rw[List.length_cons,Nat.add_mul,Nat.one_mul]
  omega
theorem Dy {f:Nat->Nat->Int} (hf: ∀a b,(f a b).natAbs<=9): ∀k l,l.length<=8->(om f k l).natAbs<=72^k
 |0,l,_=>by simp[om]
 |k+1,l,hl=>by
  rw[om]
  have:=AP (hf k) l 8 (om f k) hl (fun l hl=>Dy hf k l hl)
  have h2:l.length*(9*72^k)<=8*(9*72^k):=Nat.mul_le_mul_right _ hl
  rw[Nat.pow_succ]
  omega
theorem wW: ∀k,(jP k).length=k
 |0=>rfl
 |k+1=>by rw[jP,List.length_cons,wW k]
abbrev bB:Nat:=722204136308736
theorem EV {f:Nat->Nat->Int} (hf: ∀a b,(f a b).natAbs<=9) {k:Nat} (hk:k<=8):(dk f k).natAbs<=bB:=by
 have h1:=Dy hf k (jP k) (by rw[wW];exact hk)
 have h2:72^k<=72^8:=Nat.pow_le_pow_right (by omega) hk
 have h3:(72:Nat)^8=bB:=by decide
 unfold dk
 omega
end
section
structure pJ (n:Nat) (f0 f t:Nat->Nat->Int) (s adds:Nat):Prop where
 dfn:Def f n bB
 jn:Jn f n bB
 det:dk f n=dk f0 n
 pot:4^s*prD f n<=3^s*bB^8
 cnt:adds<=28*s+rankF f n
 szt: ∀a b,a<n->b<n->Sz (t a b) (1+45*adds)
theorem Aj: ∀n,n<9->lM n bB+1<4294967296^41:=by decide+kernel
theorem Em {n:Nat} (h:n<=8):ou n<=28:=Nat.le_trans (gA h) (by decide)
section
variable {n:Nat} {f0 f t:Nat->Nat->Int} {s adds:Nat}
theorem pJ.szc (h:pJ n f0 f t s adds) (hn:n<=8) {i j:Nat} (hi:i<n) (hj:j<i):Sz (cF f i j) 41:=by
 rw[Az h.dfn (by omega)]
 have h1:=zu (l:=bk f j i j) (h.dfn.pos j (by omega))
 have h2:=h.jn.lam h.dfn (by decide) i j hi hj
 have h3:=Aj n (by omega)
 unfold Sz
 rw[Int.natAbs_neg]
 generalize 4294967296^41=p at*
 omega
theorem yY {c:Ch} (h:uh f n=some c):rankF f n=tc c:=by unfold rankF;rw[h]
theorem pJ.add (h:pJ n f0 f t s adds) (hn:n<=8) {i j:Nat} (hc:uh f n=some (.add i j)):pJ n f0 (eP f i j (cF f i j)) (Br n t (E9 i j (cF f i j))) s (adds+1)/\rankF f n<rankF (eP f i j (cF f i j)) n:=by
 obtain⟨hF,hi⟩:=jf hc
 have hi:i<n:=hi
 obtain⟨hji,hns,hs,hr⟩:=id hF
 have hrk:rankF f n<rankF (eP f i j (cF f i j)) n:=by
  rw[yY hc]
  exact CF hji hi (fun i' hi'=>qe h.dfn _ hji hi hi' (hr i' hi')) (fun j' h1 h2=>rU h.dfn hji hi h1 h2 (fun h3=>hs j' h3 h2))
 obtain⟨g1,_⟩:=gG h.dfn.sym h.dfn.ne (cF f i j) hji hi
 have hcn:=h.cnt
 refine⟨⟨h.dfn.add _ hji hi,DM h.dfn (by decide) h.jn hF hi,by rw[g1 n (Nat.le_refl _)];exact h.det,by rw[mD n (fun t ht=>g1 (t+1) (by omega))];exact h.pot,by omega,fun a b ha hb=>?_⟩,hrk⟩
 rw[Ep (by omega) (by omega) t a b hb]
 have z1:=h.szt a b ha hb
 split
 ·have z2:=(h.szc hn hi hji).mul (h.szt a j ha (by omega))
  exact(Sz.add (z1.mono (l:=41+(1+45*adds)) (by omega)) z2).mono (by omega)
 ·rw[Int.add_zero];exact z1.mono (by omega)
theorem pJ.swap (h:pJ n f0 f t s adds) (hn:n<=8) {m:Nat} (hc:uh f n=some (.swp m)):pJ n f0 (ia f m) (Br n t (Fu m)) (s+1) adds:=by
 obtain⟨hF,hm⟩:=jf hc
 have hm:m+1<n:=hm
 obtain⟨hnl,_,_⟩:=id hF
 obtain⟨g1,_⟩:=jv h.dfn.sym h.dfn.pos hm
 have hcn:=h.cnt
 have h3:=zR f n
 have h4:=Em hn
 refine⟨h.dfn.swap hm hnl,Cl h.dfn h.jn hF hm,by rw[g1 n (Nat.le_refl _) (by omega)];exact h.det,?_,by omega,fun a b ha hb=>?_⟩
 ·have p:=tK h.dfn hm hnl n (by omega) (Nat.le_refl _)
  have q:=Nat.mul_le_mul_left (4^s) p
  have e1:4^(s+1)*prD (ia f m) n=4^s*(4*prD (ia f m) n):=by rw[Nat.pow_succ,Nat.mul_assoc]
  have e2:4^s*(3*prD f n)=3*(4^s*prD f n):=Nat.mul_left_comm _ _ _
  have e3:3^(s+1)*bB^8=3*(3^s*bB^8):=by rw[Nat.pow_succ,Nat.mul_comm (3^s) 3,Nat.mul_assoc]
  rw[e1,e3]
  rw[e2]at q
  exact Nat.le_trans q (Nat.mul_le_mul_left 3 h.pot)
 ·rw[DU hm t a b hb];exact h.szt a _ ha (kz hm hb)
theorem pJ.start (hn1:1<=n) (hn:n<=8) (hs:SymF f n) (hp:EQ f n) (hb: ∀a b,(f a b).natAbs<=9) (ht: ∀a b,a<n->b<n->Sz (t a b) 1):pJ n f f t 0 0:=by
 have hpos: ∀k,k<n->0<dk f (k+1):=fun k hk=>(DR hp k hk).1
 have hdef:Def f n bB:=⟨hs,hpos,fun k hk=>EV hb (by omega)⟩
 refine⟨hdef,.inl fun a ha=>Nat.le_trans (hb a a) ?_,rfl,?_,by omega,fun a b ha hb=>(ht a b ha hb).mono (by omega)⟩
 ·unfold cN
  exact Nat.le_trans (show 9<=bB+bB*bB by decide) (Nat.le_mul_of_pos_right _ (Nat.pow_pos (by omega)))
 ·simp only[Nat.pow_zero,Nat.one_mul]
  exact Nat.le_trans (zK hdef n (Nat.le_refl _)) (Nat.pow_le_pow_right (by decide) hn)
end
end
theorem tY {w w':World} (h:Ext w w'):Keep (fun _=>False) w w':=⟨h.os,h.tape,h.output,h.size,fun k hk _=>h.block k hk⟩
theorem A2 {w w':World} (h:Keep (fun _=>False) w w'):Ext w w':=⟨h.os,h.tape,h.output,h.size,fun k hk=>h.block k hk (fun h=>h)⟩
theorem v7 {w w':World} {X:Nat->Prop} (h:Ext w w') (hX: ∀b,X b->b<w.heap.size):gU w (fun _=>False) X (famH 0 []) (fun _ _=>none) w':=by
 have e: ∀a,famH 0 [] a=[]:=fun a=>by unfold famH;split<;>rfl
 refine⟨tY h,fun a r o ho=>?_,fun a r a' r' o o' b c c' ho=>?_,fun a r o b c ho=>?_,fun b hb=>Nat.lt_of_lt_of_le (hX b hb) h.size,fun a r o ho=>?_⟩<;>(rw[e]at ho;simp at ho)
theorem qB {P:Program} {f:FuncId} {args:List TV} {r:TV} (hc:callable P f=true) (h: ∀(X:Nat->Prop) (w:World) (vs:Array Value),(∀b,X b->b<w.heap.size)->vs.size=args.length->
  (∀(j:Nat) t,args[j]?=some t-> ∃v:Value,vs[j]?=some v/\t.rel (fun _ _=>none) (fun _=>[]) X w v)->Calls P f vs w fun e w'=> ∃v,e= .returned v/\(∀ρ H Y,r.rel ρ H Y w' v)/\Ext w w'):CallC P f args ⟨[],r⟩:=
 ⟨hc,fun X w vs hX hvs ha=>(h X w vs hX hvs ha).mono fun e w' ⟨v,h1,h2,h3⟩=>⟨v,h1,fun _ _=>none,v7 h3 hX,h2 _ _ _⟩⟩
theorem CallC.calls {P:Program} {f:FuncId} {args:List TV} {r:TV} (h:CallC P f args ⟨[],r⟩) {w:World} {vs:Array Value} (hvs:vs.size=args.length)
  (ha: ∀(j:Nat) t,args[j]?=some t-> ∃v:Value,vs[j]?=some v/\t.rel (fun _ _=>none) (fun _=>[]) (fun _=>False) w v):Calls P f vs w fun e w'=> ∃v,e= .returned v/\(∃ρ H X,r.rel ρ H X w' v)/\Ext w w':=
 (h.2 (fun _=>False) w vs (fun b h=>h.elim) hvs ha).mono fun e w' ⟨v,h1,ρ,h2,h3⟩=>⟨v,h1,⟨_,_,_,h3⟩,A2 h2.keep⟩
theorem BG {ρ:eZ} {H:OH} {X:Nat->Prop} {w:World} (b:Bool):(TV.raw (.bool b)).rel ρ H X w (.bool b):=cO.raw _ rfl
theorem l6 {X:Nat->Prop} {w:World} {u v:Value} (h:cO X w (.raw u) v):v=u:=by cases h;rfl
theorem Cm {w:World} {l:List Int} {A:Option Addr} {c:Nat} (hl:l.length<=c) (hm:l.length<=9223372036854775807) (h:RdI .i64 w A l):cO (fun _=>False) w (.sl (ls fI l)) (.slice A l.length c):=by
 cases l with
 |nil=>exact cO.nil _ _
 |cons z0 l0=>
  obtain⟨b,off,rfl,hc⟩:=h (by simp)
  have h0:=hc 0 (.int .i64 z0) (by simp)
  have hb:b<w.heap.size:=j4 h0
  have:=cO.sl (X:=fun _=>False) (w:=w) b off 1 c (ls fI (z0::l0)) (fun i _=> .int .i64 ((z0::l0).getD i 0)) (fun h=>h) hb (fun e he=>by
   obtain⟨z,_,rfl⟩:=List.mem_map.1 he
   rfl) (by rw[aD];exact hl) (by rw[aD];exact hm) (fun i e j x he hx=>by
   rw[bI]at he
   obtain⟨z,hz,rfl⟩:=Option.map_eq_some_iff.1 he
   cases j with
   |succ j=>simp[fI]at hx
   |zero=>
    have:=hc i (.int .i64 z) (by rw[List.getElem?_map,hz];rfl)
    simp only[Nat.mul_one,Nat.add_zero,List.getD_eq_getElem?_getD,hz,Option.getD_some]
    exact this) (fun i e j x he hx=>by
   rw[bI]at he
   obtain⟨z,hz,rfl⟩:=Option.map_eq_some_iff.1 he
   cases j with
   |succ j=>simp[fI]at hx
   |zero=>
    simp[fI]at hx
    subst hx
    simp only[List.getD_eq_getElem?_getD,hz,Option.getD_some]
    exact cO.raw _ rfl)
  rw[aD]at this
  exact this
theorem Db {w:World} {M:List (List Int)} {A:Option Addr} {c:Nat} (hl:M.length<=c) (hm:M.length<=9223372036854775807) (h:iA .i64 w A M):cO (fun _=>False) w (.sl (ls (fR fI) M)) (.slice A M.length c):=by
 cases M with
 |nil=>exact cO.nil _ _
 |cons r0 M0=>
  obtain⟨b,off,rfl,hc⟩:=h (by simp)
  obtain⟨v0,h0,_⟩:=hc 0 r0 rfl
  have hb:b<w.heap.size:=j4 h0
  have:=cO.sl (X:=fun _=>False) (w:=w) b off 1 c (ls (fR fI) (r0::M0)) (fun i _=>(w.cell? ⟨b,off+i,none⟩).getD undef) (fun h=>h) hb (fun e he=>by
   obtain⟨z,_,rfl⟩:=List.mem_map.1 he
   rfl) (by rw[aD];exact hl) (by rw[aD];exact hm) (fun i e j x he hx=>by
   rw[bI]at he
   obtain⟨r,hr,rfl⟩:=Option.map_eq_some_iff.1 he
   cases j with
   |succ j=>simp[fR]at hx
   |zero=>
    obtain⟨v,h1,h2⟩:=hc i r hr
    simp only[Nat.mul_one,Nat.add_zero,h1,Option.getD_some]) (fun i e j x he hx=>by
   rw[bI]at he
   obtain⟨r,hr,rfl⟩:=Option.map_eq_some_iff.1 he
   cases j with
   |succ j=>simp[fR]at hx
   |zero=>
    simp[fR]at hx
    subst hx
    obtain⟨v,h1,B,c',rfl,h3,h4,h5⟩:=hc i r hr
    simp only[h1,Option.getD_some]
    exact Cm h3 h4 h5)
  rw[aD]at this
  exact this
/-! The program's functions. -/
theorem D6 {args:List TV} {vs:Array Value} {X:Nat->Prop} {w:World} (h: ∀(j:Nat) t,args[j]?=some t-> ∃v:Value,vs[j]?=some v/\t.rel (fun _ _=>none) (fun _=>[]) X w v) {j:Nat} {x:PV} (hj:args[j]?=some (.one (.p x))): ∃v:Value,vs[j]?=some v/\cO X w x v:=h j _ hj
section
theorem cO.later {Y Y':Nat->Prop} {w w':World} (hY: ∀b,b<w.heap.size->Y' b->Y b) (hs:w.heap.size<=w'.heap.size) (hc: ∀p v,p.block<w.heap.size-> ¬Y p.block->w.cell? p=some v->w'.cell? p=some v) {x:PV} {v:Value} (h:cO Y w x v):cO Y' w' x v:=by
 induction h with
 |raw v h=>exact .raw v h
 |nil a c=>exact .nil a c
 |sl b off es cap xs f hX hb hes hcap hm hcc hr ih=>exact .sl b off es cap xs f (fun h=>hX (hY _ hb h)) (Nat.lt_of_lt_of_le hb hs) hes hcap hm (fun i e j x h1 h2=>hc ⟨b,_,none⟩ _ hb hX (hcc i e j x h1 h2)) ih
 |ptr b off cs f hX hb hcc hr ih=>exact .ptr b off cs f (fun h=>hX (hY _ hb h)) (Nat.lt_of_lt_of_le hb hs) (fun j x h1=>hc ⟨b,_,none⟩ _ hb hX (hcc j x h1)) ih
theorem qg {w w':World} {p:Addr} (h:w'.heap[p.block]?=w.heap[p.block]?):w'.cell? p=w.cell? p:=by unfold World.cell?;rw[h]
def kk (b:Nat) (ty:TypeId) (cs:List PV) (Y:Nat->Prop) (w:World):Prop:=
 ∃(cells:Array Value) (c:Nat),w.heap[b]?=some (.cells cells ty (0,0))/\cells.size=c*cs.length/\1<=c/\c<=9223372036854775807/\0<cs.length/\
  ∀(j:Nat) x,cs[j]?=some x-> ∃v:Value,cells[j]?=some v/\v.oneCell'=true/\cO Y w x v
theorem kk.later {b:Nat} {ty:TypeId} {cs:List PV} {Y Y':Nat->Prop} {w w':World} (hY: ∀j,j<w.heap.size->Y' j->Y j) (hs:w.heap.size<=w'.heap.size) (hb:w'.heap[b]?=w.heap[b]?) (hc: ∀j,j<w.heap.size-> ¬Y j->w'.heap[j]?=w.heap[j]?)
  (h:kk b ty cs Y w):kk b ty cs Y' w':=by
 obtain⟨cells,c,h1,h2,h3,h4,h5,h6⟩:=h
 refine⟨cells,c,by rw[hb];exact h1,h2,h3,h4,h5,fun j x hx=>?_⟩
 obtain⟨v,v1,v2,v3⟩:=h6 j x hx
 exact⟨v,v1,v2,v3.later hY hs fun p u hp hn hu=>by rw[qg (hc p.block hp hn)];exact hu⟩
theorem kk.weaken {b:Nat} {ty:TypeId} {cs:List PV} {Y Y':Nat->Prop} {w:World} (hY: ∀j,j<w.heap.size->Y' j->Y j) (h:kk b ty cs Y w):kk b ty cs Y' w:=
 h.later hY (Nat.le_refl _) rfl fun _ _ _=>rfl
section
variable {P:Program} {b:Nat} {ty:TypeId} {cs cs':List PV} {w0 w:World} {O X:Nat->Prop} {s s':AS} {a:Act}
def fb (b:Nat) (ty:TypeId) (w0:World) (O X:Nat->Prop) (s:AS) (cs:List PV) (a:Act) (w:World):Prop:=
 a.defers=[]/\a.tmps.size=s.tmps.length/\ ∃ρ,gU w0 O X s.H ρ w/\cn X ρ s a w/\O b/\X b/\kk b ty cs (Xo X ρ s.H) w
theorem fb.rel (h:fb b ty w0 O X s cs a w):fM w0 O X s a w:=by
 obtain⟨h1,h2,ρ,h3,h4,_⟩:=h
 exact⟨h1,h2,ρ,h3,h4⟩
theorem fb.rebase (h:fb b ty w0 O X s cs a w): ∃Own:Nat->Prop,fM w Own X s a w/\ ∀s1 a1 w1,fM w Own X s1 a1 w1->fb b ty w0 O X s1 cs a1 w1:=by
 obtain⟨h1,hsz,ρ,hinv,htm,hO,hX,hbox⟩:=h
 refine⟨fun j=> ∃(x r:Nat) (o:OObj) (c:Nat),(s.H x)[r]?=some o/\ρ x r=some (j,c),⟨h1,hsz,ρ,⟨Keep.refl w,hinv.objs,hinv.inj,fun x r o j c ho hj=>⟨.inr ⟨x,r,o,c,ho,hj⟩,(hinv.old x r o j c ho hj).2⟩,hinv.bar,hinv.self⟩,htm⟩,?_⟩
 rintro s1 a1 w1 ⟨k1,ksz,ρ1,kinv,ktm⟩
 have hown: ∀j,(∃(x r:Nat) (o:OObj) (c:Nat),(s.H x)[r]?=some o/\ρ x r=some (j,c))->(w0.heap.size<=j\/O j)/\ ¬X j:=fun j ⟨x,r,o,c,g1,g2⟩=>hinv.old x r o j c g1 g2
 refine⟨k1,ksz,ρ1,⟨⟨kinv.keep.os.trans hinv.keep.os,kinv.keep.tape.trans hinv.keep.tape,kinv.keep.output.trans hinv.keep.output,Nat.le_trans hinv.keep.size kinv.keep.size,fun j hj hn=>?_⟩,kinv.objs,kinv.inj,fun x r o j c ho hj=>?_,kinv.bar,kinv.self⟩,ktm,hO,hX,?_⟩
 ·rw[kinv.keep.block j (Nat.lt_of_lt_of_le hj hinv.keep.size) (fun hh=>by
   rcases(hown j hh).1 with h|h
   ·omega
   ·exact hn h)]
  exact hinv.keep.block j hj hn
 ·obtain⟨g1,g2⟩:=kinv.old x r o j c ho hj
  refine⟨?_,g2⟩
  rcases g1 with g|g
  ·exact .inl (Nat.le_trans hinv.keep.size g)
  ·exact(hown j g).1
 ·refine hbox.later (fun j hj hh=>?_) kinv.keep.size (kinv.keep.block b (hinv.bar b hX) (fun hh=>(hown b hh).2 hX)) (fun j hj hn=>kinv.keep.block j hj (fun hh=>hn (.inr hh)))
  rcases hh with hh|⟨x,r,o,c,g1,g2⟩
  ·exact .inl hh
  ·rcases(kinv.old x r o j c g1 g2).1 with g|g
   ·omega
   ·exact .inr g
def gh (P:Program) (b:Nat) (ty:TypeId) (c:Code) (Q:Exit->AS->List PV->Prop) (s:AS) (cs:List PV):Prop:=
 ∀(w0:World) (O X:Nat->Prop) (a:Act) (w:World),fb b ty w0 O X s cs a w->c.wp P (fun e a' w'=> ∃s' cs',Q e s' cs'/\fb b ty w0 O X s' cs' a' w') a w
def Ad (next:AS->List PV->Prop) (Q:Exit->AS->List PV->Prop):Exit->AS->List PV->Prop
 | .normal,s,k=>next s k
 |e,s,k=>Q e s k
def vP (id:Nat) (Q:Exit->AS->List PV->Prop):Exit->AS->List PV->Prop
 | .exit id',s,k=>if id'=id then Q .normal s k else Q (.exit id') s k
 |e,s,k=>Q e s k
variable {Q:Exit->AS->List PV->Prop}
theorem uU {c:Code} (h:bX P c (fun e s'=>Q e s' cs) s):gh P b ty c Q s cs:=fun w0 O X a w r=>by
 obtain⟨Own,h1,h2⟩:=r.rebase
 exact wp_mono (h _ _ _ _ _ h1) fun e a' w' ⟨s',g1,g2⟩=>⟨s',cs,g1,h2 _ _ _ g2⟩
theorem gh.weak {c:Code} (h:du s s') (k:gh P b ty c Q s' cs):gh P b ty c Q s cs:=fun _ _ _ _ _ r=>by
 obtain⟨Own,h1,h2⟩:=r.rebase
 exact k _ _ _ _ _ (h2 _ _ _ (h _ _ _ _ _ h1))
theorem fb.weak (h:du s s') (r:fb b ty w0 O X s cs a w):fb b ty w0 O X s' cs a w:=by
 obtain⟨Own,h1,h2⟩:=r.rebase
 exact h2 _ _ _ (h _ _ _ _ _ h1)
theorem gh.mono {c:Code} {Q':Exit->AS->List PV->Prop} (h:gh P b ty c Q s cs) (k: ∀e s' cs',Q e s' cs'->Q' e s' cs'):gh P b ty c Q' s cs:=fun _ _ _ _ _ r=>
 wp_mono (h _ _ _ _ _ r) fun _ _ _ ⟨s',cs',h1,h2⟩=>⟨s',cs',k _ _ _ h1,h2⟩
theorem lO (h:Q .normal s cs):gh P b ty .skip Q s cs:=fun _ _ _ _ _ r=>wp_skip ⟨s,cs,h,r⟩
theorem oo {id:Nat} (h:Q (.exit id) s cs):gh P b ty (.exit id) Q s cs:=fun _ _ _ _ _ r=>wp_exit ⟨s,cs,h,r⟩
theorem wC (h:Q .ret s cs):gh P b ty .ret Q s cs:=fun _ _ _ _ _ r=>wp_ret ⟨s,cs,h,r⟩
theorem eL {x y:Code} (h:gh P b ty x (Ad (gh P b ty y Q) Q) s cs):gh P b ty (.seq x y) Q s cs:=fun _ _ _ _ _ r=>
 wp_seq (wp_mono (h _ _ _ _ _ r) fun e a w ⟨s',cs',h1,h2⟩=>by
  cases e with
  |normal=>exact h1 _ _ _ _ _ h2
  |_=>exact⟨s',cs',h1,h2⟩)
theorem gz {id:Nat} {x:Code} (h:gh P b ty x (vP id Q) s cs):gh P b ty (.block id x) Q s cs:=fun _ _ _ _ _ r=>
 wp_block (wp_mono (h _ _ _ _ _ r) fun e a w ⟨s',cs',h1,h2⟩=>by
  cases e with
  |exit id'=>
   simp only[vP]at h1
   simp only[Exit.inBlock]
   split at h1
   ·rename_i hid;rw[if_pos hid];exact⟨s',cs',h1,h2⟩
   ·rename_i hid;rw[if_neg hid];exact⟨s',cs',h1,h2⟩
  |_=>exact⟨s',cs',h1,h2⟩)
theorem dJ {c:Operand} {x y:Code} {v:Bool} (hc:s.ev c=some (.raw (.bool v))) (ht:v=true->gh P b ty x Q s cs) (hf:v=false->gh P b ty y Q s cs):gh P b ty (.cond c x y) Q s cs:=fun _ _ _ _ _ r=>by
 obtain⟨h1,hsz,ρ,hinv,htm,_⟩:=id r
 have hb:=(cW (dD htm c _ hc)).1
 exact wp_cond_split hb (fun h=>ht h _ _ _ _ _ r) (fun h=>hf h _ _ _ _ _ r)
theorem Bt {G:Type} (St:G->AS) (Sc:G->List PV) (μ:G->Nat) (g0:G) {c:Code} (h0:du s (St g0)) (h0':Sc g0=cs)
  (round: ∀g,gh P b ty c (Ad (fun s' cs'=> ∃g',μ g'<μ g/\du s' (St g')/\Sc g'=cs') Q) (St g) (Sc g)):gh P b ty (.loop c) Q s cs:=fun w0 O X a w r=>by
 classical
 subst h0'
 let p:Act->World->Nat->Prop:=fun a w n=> ∃g,μ g=n/\fb b ty w0 O X (St g) (Sc g) a w
 let m:Act->World->Nat:=fun a w=>if h: ∃n,p a w n then Classical.choose (ck h)else 0
 refine wp_loop (fun a w=> ∃n,p a w n) m ⟨_,g0,rfl,r.weak h0⟩ ?_
 intro a w hI
 have hm:m a w=Classical.choose (ck hI):=dif_pos hI
 obtain⟨hp,hleast⟩:=Classical.choose_spec (ck hI)
 rw[<- hm]at hp
 obtain⟨g,hg,hr⟩:=hp
 refine wp_mono (round g _ _ _ _ _ hr) fun e a' w' ⟨s',cs',h1,h2⟩=>?_
 cases e with
 |normal=>
  obtain⟨g',hlt,hw,hcs⟩:=h1
  subst hcs
  have hr':=h2.weak hw
  have hI': ∃n,p a' w' n:=⟨_,g',rfl,hr'⟩
  refine⟨hI',?_⟩
  have hm':m a' w'=Classical.choose (ck hI'):=dif_pos hI'
  obtain⟨_,hl'⟩:=Classical.choose_spec (ck hI')
  have:=hl' (μ g') ⟨g',rfl,hr'⟩
  rw[hm']
  omega
 |_=>exact⟨s',cs',h1,h2⟩
theorem pu {G:Type} (St:G->AS) (Sc:G->List PV) (μ:G->Nat) (g0:G) {id:Nat} {x:Code} (h0:du s (St g0)) (h0':Sc g0=cs)
  (round: ∀g,gh P b ty x (Ad (fun s' cs'=> ∃g',μ g'<μ g/\du s' (St g')/\Sc g'=cs') (vP id Q)) (St g) (Sc g)):gh P b ty (.block id (.loop x)) Q s cs:=
 gz (Bt St Sc μ g0 h0 h0' round)
/-! Regions without lent calls. -/
theorem cB {y:Code} (items:List (ar P)) (ow:List Nat) {id:Nat} {ops:Array Oper} (hl:s.tmps.length<=1000000) (h: ∀K:AS->Prop,(∀s',gh P b ty y Q s' cs->K s')->dS P (items.map ar.a) ow (cY ops ops.toList 0) (some s) K):gh P b ty (.seq (.region id ops false) y) Q s cs:=
 eL (uU (nG items ow hl (h _ fun _ h=>h)))
theorem iM (items:List (ar P)) (ow:List Nat) {id:Nat} {ops:Array Oper} (hl:s.tmps.length<=1000000) (h: ∀K:AS->Prop,(∀s',Q .normal s' cs->K s')->dS P (items.map ar.a) ow (cY ops ops.toList 0) (some s) K):gh P b ty (.region id ops false) Q s cs:=
 uU (nG items ow hl (h _ fun _ h=>h))
theorem mN (hm:P.follows .mixedOrders=true) (items:List (ar P)) (ow:List Nat) {id:Nat} {ops:Array Oper} (hd:eJ [] ops=true) (hl:s.tmps.length<=1000000) (h: ∀K:AS->Prop,(∀s',Q .normal s' cs->K s')->dS P (items.map ar.a) ow (cY ops ops.toList 0) (some s) K):gh P b ty (.region id ops true) Q s cs:=
 uU (jT hm items ow hd (by simp) (fun x hx=>by simp at hx) hl (h _ fun _ h=>h))
end
def g9 (P:Program) (b:Nat) (ty:TypeId) (f:FuncId) (args:List TV) (cs:List PV) (res:CallRes) (cs':List PV):Prop:=
 callable P f=true/\ ∀(X:Nat->Prop) (w:World) (vs:Array Value),(∀j,X j->j<w.heap.size)->X b->kk b ty cs X w->vs.size=args.length->
  (∀(j:Nat) t,args[j]?=some t-> ∃v:Value,vs[j]?=some v/\t.rel (fun _ _=>none) (fun _=>[]) X w v)->
  Calls P f vs w fun e w'=> ∃v,e= .returned v/\ ∃ρ:eZ,gU w (fun j=>j=b) X (famH 0 res.fam) ρ w'/\res.r.rel ρ (famH 0 res.fam) (Xo X ρ (famH 0 res.fam)) w' v/\kk b ty cs' (Xo X ρ (famH 0 res.fam)) w'
section
variable {P:Program} {b:Nat} {ty:TypeId} {cs cs':List PV} {w0 w:World} {O X:Nat->Prop} {ρ:eZ} {s:AS} {a:Act}
theorem Ac {it:dN P} {d:Nat} (h1:a.defers=[]) (hsz:a.tmps.size=s.tmps.length) (hinv:gU w0 O X s.H ρ w) (htm:cn X ρ s a w) (hO:O b) (hX:X b) {t:TV} {F:List OObj} (ht:aS d it.res.r=t) (hF:it.res.fam.map (db d)=F) (hd:F≠[]->s.H d=[])
  {v:Value} {w1:World} {ρc:eZ} (hi:gU w (fun j=>j=b) (Xo X ρ s.H) (famH 0 it.res.fam) ρc w1) (hr:it.res.r.rel ρc (famH 0 it.res.fam) (Xo (Xo X ρ s.H) ρc (famH 0 it.res.fam)) w1 v)
  (hbox:kk b ty cs' (Xo (Xo X ρ s.H) ρc (famH 0 it.res.fam)) w1):fb b ty w0 O X (iX s d t F) cs' (a.put (some d) v) w1:=by
 have hbut:But b w w1:=⟨hi.keep.os,hi.keep.tape,hi.keep.output,hi.keep.size,fun k hk hne=>hi.keep.block k hk hne⟩
 have hnb: ∀(x r:Nat) o b' c,(s.H x)[r]?=some o->ρ x r=some (b',c)->w1.heap[b']?=w.heap[b']?:=fun x r o b' c ho hb'=>hbut.block b' (cK (hinv.objs x r o ho) hb') (by rintro rfl;exact(hinv.old x r o b' c ho hb').2 hX)
 by_cases hfam:it.res.fam=[]
 ·rw[hfam]at hi hr hbox
  have hF0:F=[]:=by rw[<- hF,hfam];rfl
  subst hF0
  have mono: ∀x u,AV.rel ρ s.H (Xo X ρ s.H) w x u->AV.rel ρ s.H (Xo X ρ s.H) w1 x u:=fun x u hx=>iO (.inl hX) hbut (fun a r o ho=>⟨o,ho,rfl,Nat.le_refl _,rfl⟩) (fun a r o b' c ho hb _=> .inr ⟨a,r,o,c,ho,hb⟩) hx
  have hinv':gU w0 O X s.H ρ w1:=⟨hinv.keep.but hbut (.inr hO),fun x r o ho=>dV (hinv.objs x r o ho) rfl (fun b' c hb'=>hnb x r o b' c ho hb') mono,hinv.inj,hinv.old,fun j hj=>Nat.lt_of_lt_of_le (hinv.bar j hj) hbut.size,hinv.self⟩
  have htm':cn X ρ s a w1:=fun k x hx=>by
   obtain⟨u,g1,g2⟩:=htm k x hx
   exact⟨u,g1,TV.rel_map g2 mono⟩
  have hv:t.rel ρ s.H (Xo X ρ s.H) w1 v:=by
   rw[<- ht]
   exact jZ hr (fun x u hx=>nz (fun r o' ho'=>by simp at ho') (fun j _ hj=> .inl hj) hx)
  show fb b ty w0 O X (s.put (some d) t) cs' _ _
  refine⟨by rw[gX];exact h1,by rw[jN,er];exact hsz,ρ,by rw[gZ];exact hinv',pc hsz htm' hv,hO,hX,?_⟩
  rw[gZ]
  exact hbox.weaken fun j _ hj=> .inl hj
 ·have hF0:F≠[]:=by rw[<- hF];simpa using hfam
  have hd0:=hd hF0
  have hres:iX s d t F=AS.put ⟨s.tmps,au s.H d F⟩ (some d) t:=by
   unfold iX
   rw[if_neg (by simpa using hF0)]
  rw[hres]
  let f:Nat->Option (Nat×Nat):=fun r=>if r<it.res.fam.length then ρc 0 r else none
  have hff: ∀r j n,f r=some (j,n)->(∃o',it.res.fam[r]?=some o')/\ρc 0 r=some (j,n):=fun r j n h=>by
   simp only[f]at h
   split at h
   ·rename_i hlt;exact⟨⟨_,List.getElem?_eq_getElem hlt⟩,h⟩
   ·cases h
  have hnew: ∀(r j n:Nat),f r=some (j,n)->w.heap.size<=j:=fun r j n h=>by
   obtain⟨⟨o',ho'⟩,g⟩:=hff r j n h
   have:=hi.old 0 r o' j n (by simpa[famH] using ho') g
   rcases this.1 with h|h
   ·exact h
   ·exact absurd (h▸ .inl hX) this.2
  have hXo: ∀j,Xo X (newρ ρ d f) (au s.H d F) j->Xo (Xo X ρ s.H) ρc (famH 0 it.res.fam) j:=fun j hj=>by
   rcases hj with hj|⟨x',y',o',n,g1,g2⟩
   ·exact .inl (.inl hj)
   ·by_cases hxd:x'=d
    ·subst hxd
     rw[newρ_eq]at g2
     obtain⟨⟨o2,ho2⟩,g3⟩:=hff y' j n g2
     exact .inr ⟨0,y',o2,n,by simpa[famH] using ho2,g3⟩
    ·rw[bv hxd]at g1
     rw[newρ_ne hxd]at g2
     exact .inl (.inr ⟨x',y',o',n,g1,g2⟩)
  have mono: ∀x u,AV.rel ρ s.H (Xo X ρ s.H) w x u->AV.rel (newρ ρ d f) (au s.H d F) (Xo X (newρ ρ d f) (au s.H d F)) w1 x u:=fun x u hx=>by
   refine iO (.inl hX) hbut (fun x r o ho=>?_) (fun x r o b' c ho hb hlt=>?_) hx
   ·have hxd:x≠d:=by rintro rfl;rw[hd0]at ho;simp at ho
    exact⟨o,by rw[bv hxd];exact ho,rfl,Nat.le_refl _,newρ_ne hxd r⟩
   ·by_cases hxd:x=d
    ·subst hxd
     rw[newρ_eq]at hb
     have:=hnew r b' c hb
     omega
    ·rw[bv hxd]at ho
     rw[newρ_ne hxd]at hb
     exact .inr ⟨x,r,o,c,ho,hb⟩
  have hmap: ∀x u,AV.rel ρc (famH 0 it.res.fam) (Xo (Xo X ρ s.H) ρc (famH 0 it.res.fam)) w1 x u->AV.rel (newρ ρ d f) (au s.H d F) (Xo X (newρ ρ d f) (au s.H d F)) w1 (aP d x) u:=fun x u hx=>by
   refine nz (fun r o' ho'=>?_) (fun j _ hj=>hXo j hj) hx
   rw[bV,newρ_eq]
   simp only[f]
   rw[if_pos (List.getElem?_eq_some_iff.1 ho').1,<- hF,List.getElem?_map,ho']
   exact⟨rfl,rfl⟩
  have hinv':gU w0 O X (au s.H d F) (newρ ρ d f) w1:=by
   refine⟨hinv.keep.but hbut (.inr hO),fun x r o ho=>?_,fun x r x' r' o o' j c c' ho ho' hr hr'=>?_,fun x r o j c ho hr=>?_,fun j hj=>Nat.lt_of_lt_of_le (hinv.bar j hj) hbut.size,fun x r o ho=>?_⟩
   ·by_cases hxd:x=d
    ·subst hxd
     rw[bV,<- hF,List.getElem?_map]at ho
     obtain⟨o2,ho2,rfl⟩:=Option.map_eq_some_iff.1 ho
     have hobj:=hi.objs 0 r o2 (by simpa[famH] using ho2)
     obtain⟨z1,z2,z3⟩:=hobj
     refine⟨fun e he=>?_,z2,?_⟩
     ·simp only[db,List.mem_map]at he
      obtain⟨e',he',rfl⟩:=he
      rw[List.length_map];exact z1 e' he'
     ·rw[newρ_eq]
      simp only[f]
      rw[if_pos (List.getElem?_eq_some_iff.1 ho2).1]
      cases hr0:ρc 0 r with
      |none=>rw[hr0]at z3;simp[db,z3]
      |some bc=>
       obtain⟨j,n⟩:=bc
       rw[hr0]at z3
       obtain⟨cells,p1,p2,p3,p4,p5⟩:=z3
       refine⟨cells,p1,p2,by simpa[db] using p3,p4,fun i e j z he hz=>?_⟩
       simp only[db,List.getElem?_map]at he
       obtain⟨e',he',rfl⟩:=Option.map_eq_some_iff.1 he
       rw[List.getElem?_map]at hz
       obtain⟨z',hz',rfl⟩:=Option.map_eq_some_iff.1 hz
       obtain⟨u,u1,u2,u3⟩:=p5 i e' j z' he' hz'
       exact⟨u,u1,u2,hmap z' u u3⟩
    ·rw[bv hxd]at ho
     exact dV (hinv.objs x r o ho) (newρ_ne hxd r) (fun b' c hb'=>hnb x r o b' c ho hb') mono
   ·by_cases hx:x=d
    ·subst hx
     rw[newρ_eq]at hr
     by_cases hx':x'=x
     ·subst hx'
      rw[newρ_eq]at hr'
      obtain⟨⟨o1,ho1⟩,g1⟩:=hff r j c hr
      obtain⟨⟨o2,ho2⟩,g2⟩:=hff r' j c' hr'
      exact⟨rfl,(hi.inj 0 r 0 r' o1 o2 j c c' (by simpa[famH] using ho1) (by simpa[famH] using ho2) g1 g2).2⟩
     ·rw[newρ_ne hx']at hr'
      rw[bv hx']at ho'
      have:=cK (hinv.objs x' r' o' ho') hr'
      have:=hnew _ _ _ hr
      omega
    ·rw[newρ_ne hx]at hr
     rw[bv hx]at ho
     by_cases hx':x'=d
     ·subst hx'
      rw[newρ_eq]at hr'
      have:=cK (hinv.objs x r o ho) hr
      have:=hnew _ _ _ hr'
      omega
     ·rw[newρ_ne hx']at hr'
      rw[bv hx']at ho'
      exact hinv.inj x r x' r' o o' j c c' ho ho' hr hr'
   ·by_cases hx:x=d
    ·subst hx
     rw[newρ_eq]at hr
     have:=hnew _ _ _ hr
     have hk:=hinv.keep.size
     exact⟨.inl (by omega),fun hX=>by have:=hinv.bar j hX;omega⟩
    ·rw[newρ_ne hx]at hr
     rw[bv hx]at ho
     exact hinv.old x r o j c ho hr
   ·by_cases hx:x=d
    ·subst hx
     rw[bV,<- hF,List.getElem?_map]at ho
     obtain⟨o2,ho2,rfl⟩:=Option.map_eq_some_iff.1 ho
     intro e he z hz
     simp only[db,List.mem_map]at he
     obtain⟨e',he',rfl⟩:=he
     simp only[List.mem_map]at hz
     obtain⟨z',hz',rfl⟩:=hz
     cases z'<;>first|rfl|trivial
    ·rw[bv hx]at ho
     exact hinv.self x r o ho
  have htm':cn X (newρ ρ d f) ⟨s.tmps,au s.H d F⟩ a w1:=fun k x hx=>by
   obtain⟨u,g1,g2⟩:=htm k x hx
   exact⟨u,g1,TV.rel_map g2 mono⟩
  have hv:t.rel (newρ ρ d f) (au s.H d F) (Xo X (newρ ρ d f) (au s.H d F)) w1 v:=by
   rw[<- ht]
   exact jZ hr hmap
  refine⟨by rw[gX];exact h1,by rw[jN,er];exact hsz,newρ ρ d f,by rw[gZ];exact hinv',pc (s:=⟨s.tmps,au s.H d F⟩) hsz htm' hv,hO,hX,?_⟩
  rw[gZ]
  exact hbox.weaken fun j _ hj=>hXo j hj
theorem Bs {H:OH} {t:TV} (h:aR (bo H t)=true):bo H t=t:=by
 unfold bo at h⊢
 split
 ·rename_i a r off len
  simp only at h
  split at h<;>cases h
 ·cases h
 ·rfl
theorem yc {H H':OH} {ρ':eZ} {Y Y':Nat->Prop} {w':World} {t:TV} {v:Value} (h:aR t=true) (hr:t.rel ρ H Y w v):t.rel ρ' H' Y' w' v:=by
 have hav: ∀x u,aV x=true->AV.rel ρ H Y w x u->AV.rel ρ' H' Y' w' x u:=fun x u hx hu=>by
  cases x with
  |p x=>
   cases x with
   |raw z=>
    obtain⟨rfl,h1⟩:=cW (ρ:=ρ) (H:=H) hu
    exact cO.raw _ h1
   |sl xs=>cases hx
   |ptr cs=>cases hx
  |sl a r off len=>cases hx
  |ptr a r i j=>cases hx
  |junk=>cases hx
 have agg: ∀cs v,cs.all aV=true->cE ρ H Y w cs v->cE ρ' H' Y' w' cs v:=fun cs v hc ⟨vs,g1,g2,g3⟩=>by
  simp only[List.all_eq_true]at hc
  exact⟨vs,g1,g2,fun j x hx=>by obtain⟨u,u1,u2,u3⟩:=g3 j x hx;exact⟨u,u1,u2,hav x u (hc x (List.mem_of_getElem? hx)) u3⟩⟩
 cases t with
 |one x=>exact hav x v h hr
 |agg cs=>exact agg cs v h hr
 |fn f cs=>obtain⟨u,h1,h2⟩:=hr;exact⟨u,agg cs u h h1,h2⟩
 |tup ts=>
  simp only[aR,List.all_eq_true]at h
  obtain⟨vs,g1,g2,g3⟩:=hr
  refine⟨vs,g1,g2,fun j c cs hj=>?_⟩
  obtain⟨u,u1,u2⟩:=g3 j c cs hj
  have hall:=h (c,cs) (List.mem_of_getElem? hj)
  refine⟨u,u1,?_⟩
  rcases u2 with⟨u2,u3⟩|⟨u2,x,rfl,u4⟩
  ·exact .inl ⟨u2,agg _ _ (by simpa only[List.all_eq_true] using hall) u3⟩
  ·exact .inr ⟨u2,_,rfl,hav x u (hall x (by simp)) u4⟩
theorem CU {items:List (dN P)} {ow:List Nat} {i:Nat} {s1:AS} (hrel:fb b ty w0 O X s cs a w) {o:Oper} {c:Call} {f:FuncId} (ho:o.op= .call c) (hcal:c.callee= .value (.func f)) {it:dN P} (hit:items.find? (·.i==i)=some it)
  (hraw:it.args.all aR=true) (hcon:g9 P b ty it.f it.args cs it.res cs') (h:dZ P items ow i o s=some s1) {K:Act->World->Prop} {Q:Exit->Act->World->Prop}
  (hK: ∀v w',fb b ty w0 O X s1 cs' (a.put o.dst v) w'->K (a.put o.dst v) w'):o.wp P a w K Q:=by
 obtain⟨h1,hsz,ρ,hinv,htm,hO,hX,hbox⟩:=hrel
 have hM:rm o.op=false:=by rw[ho];rfl
 have hR:Ci o.op=false:=by
  obtain⟨callee,args,tys⟩:=c
  simp only at hcal
  subst hcal
  rw[ho];rfl
 have hD:bN P s.ev s.H o.op=none:=by
  obtain⟨callee,args,tys⟩:=c
  simp only at hcal
  subst hcal
  rw[ho];rfl
 unfold dZ at h
 simp only[hM,hR,hD,Bool.false_eq_true,if_false]at h
 obtain⟨d,t,F,hdst,hA,hdF,hs1⟩: ∃d t F,o.dst=some d/\aI P items ow i d s.ev s.H o.op=some (t,F)/\(F≠[]->s.H d=[])/\s1=iX s d t F:=by
  split at h
  ·cases h
  ·rename_i d hd
   split at h
   ·rename_i t ht
    injection h with h
    exact⟨d,t,[],hd,ht,fun h=>absurd rfl h,by rw[<- h];rfl⟩
   ·rename_i t F hF ht
    split at h
    ·rename_i hH
     injection h with h
     refine⟨d,t,F,hd,ht,fun _=>hH,?_⟩
     rw[<- h]
     unfold iX
     rw[if_neg (by intro h;exact hF (List.isEmpty_iff.1 h))]
    ·cases h
   ·cases h
 subst hs1
 rw[ho]at hA
 simp only[aI,hcal]at hA
 rw[hit]at hA
 split at hA
 ·rename_i it' ts hit' hts
  injection hit' with hit'
  subst hit'
  split at hA
  ·rename_i hc
   obtain⟨c1,c2,_,_⟩:=hc
   injection hA with hA
   injection hA with ht hF
   subst c1
   obtain⟨e1,e2⟩:=d5 hts
   obtain⟨hcallable,hcon⟩:=hcon
   have hrun:=o5 (w:=w) ho hcal (e:=a.eval) rfl hcallable
   unfold Oper.wp
   rw[hrun]
   simp only[Oper.upon]
   have hXlt: ∀j,Xo X ρ s.H j->j<w.heap.size:=fun j hj=>by
    rcases hj with hj|⟨x,y,o',n,g1,g2⟩
    ·exact hinv.bar j hj
    ·exact cK (hinv.objs x y o' g1) g2
   refine(hcon (Xo X ρ s.H) w (c.args.map a.eval) hXlt (.inl hX) hbox ?_ ?_).mono ?_
   ·rw[<- c2];simp[e1]
   ·intro j u hu
    have hru:aR u=true:=by
     rw[List.all_eq_true]at hraw
     exact hraw u (List.mem_of_getElem? hu)
    rw[<- c2,List.getElem?_map]at hu
    obtain⟨t0,ht0,rfl⟩:=Option.map_eq_some_iff.1 hu
    obtain⟨x,hx,hxt⟩:=e2 j t0 ht0
    refine⟨a.eval x,by rw[Array.getElem?_map];simp at hx;rw[hx];rfl,?_⟩
    have hne:=Bs hru
    rw[hne]at hru⊢
    exact yc hru (dD htm x t0 hxt)
   ·rintro e w1 ⟨v,rfl,ρc,hi,hr,hb'⟩
    show K (a.put o.dst v) w1
    refine hK v w1 ?_
    rw[hdst]
    exact Ac h1 hsz hinv htm hO hX ht hF hdF hi hr hb'
  ·cases hA
 ·cases hA
end
end
end Go.Proofs.YtpgghglbpcabkaaGreat
