/-
  Part 15 of a proof (walks and plain facts).
-/
import Derived.Test.YtiollbhgpiiodaaGreatDoorP13
set_option linter.all false
set_option maxRecDepth 100000
set_option maxHeartbeats 64000000
open Nat renaming reduceAdd → aa
open Nat renaming le_refl → af
open List renaming replicate → ag
open List renaming getElem?_eq_none → au
open List renaming mem_of_getElem? → ax
open List renaming length_replicate → az
open List renaming getElem?_map → aA
open Nat renaming le_trans → aB
open Nat renaming mul_le_mul_left → aC
open Nat renaming pow_le_pow_right → aE
namespace Go.Proofs.YtiollbhgpiiodaaGreatDoor
open Go.RowKit
def b9 (F:Nat->Int):Nat->Int
 |0=>0
 |k+1=>b9 F k+F k
theorem aS {F G:Nat->Int}: ∀k,(∀p,p<k->F p=G p)->b9 F k=b9 G k
 |0,_=>rfl
 |k+1,h=>by rw[b9,b9,aS k (fun p hp=>h p (by omega)),h k (by omega)]
theorem jO (F G:Nat->Int): ∀k,b9 (fun p=>F p+G p) k=b9 F k+b9 G k
 |0=>rfl
 |k+1=>by rw[b9,b9,b9,jO F G k];omega
theorem eW: ∀k,b9 (fun _=>0) k=0
 |0=>rfl
 |k+1=>by rw[b9,eW k];rfl
theorem ii {F:Nat->Int} {a:Nat}: ∀{k},a<k->(∀p,p<k->p≠a->F p=0)->b9 F k=F a
 |k+1,h,h0=>by
  by_cases e:a=k
  ·subst e;rw[b9,aS a (G:=fun _=>0) (fun p hp=>h0 p (by omega) (by omega)),eW];omega
  rw[b9,ii (show a<k by omega) (fun p hp hn=>h0 p (by omega) hn),h0 k (by omega) (by omega)];omega
theorem oV {k:Nat} (x y:Nat->Int): ∀l,l<=k->ew (bT k x) (bT k y) l=b9 (fun p=>x p*y p) l
 |0,_=>rfl
 |l+1,h=>by
  show ew (bT k x) (bT k y) l+(bT k x).getD l 0*(bT k y).getD l 0=_;rw[oV x y l (by omega),List.getD_eq_getElem?_getD,List.getD_eq_getElem?_getD,aY _ (by omega),aY _ (by omega)];rfl
theorem cK (k:Nat) (f g:FF) (i j:Nat):em k f g i j=b9 (fun p=>f i p*g p j) k:=oV _ _ k (af _)
def Gv (i j:Nat) (c:Int):Nat->Nat->Int:=upd idF j i c
def F5 (m:Nat):Nat->Nat->Int:=fun a=>idF (nM m a)
theorem DM (m a:Nat):nM m (nM m a)=a:=by
 unfold nM;by_cases h1:a=m
 ·subst h1;simp
 by_cases h2:a=m+1
 ·subst h2;simp
 simp[h1,h2]
theorem Nk {i j:Nat} {c:Int} (hji:j≠i) (p b:Nat):Gv i j c p b=idF p b+(if p=j then(if b=i then c else 0)else 0):=by
 unfold Gv upd idF;by_cases h1:p=j
 ·subst h1;by_cases h2:b=i
  ·subst h2;simp[hji]
  simp[h2]
 simp[h1]
theorem uJ {n:Nat} {y:Nat->Int} {b:Nat} (hb:b<n):b9 (fun p=>y p*idF p b) n=y b:=by
 rw[ii hb (fun p hp hn=>by simp[idF,hn])];simp[idF]
theorem BK {n i j:Nat} {c:Int} (hji:j≠i) (hj:j<n) (x:FF) (a b:Nat) (hb:b<n):em n x (Gv i j c) a b=x a b+(if b=i then c*x a j else 0):=by
 rw[cK,aS n (G:=fun p=>x a p*idF p b+x a p*(if p=j then(if b=i then c else 0)else 0)) (fun p _=>by rw[Nk hji,Int.mul_add]),jO,uJ hb]
 congr 1
 rw[ii hj (fun p _ hn=>by simp[hn])];by_cases h:b=i
 ·simp[h,Int.mul_comm]
 simp[h]
theorem Gx {n i j:Nat} {c:Int} (hji:j≠i) (hj:j<n) (x:FF) (a b:Nat) (ha:a<n):em n (trF (Gv i j c)) x a b=x a b+(if a=i then c*x j b else 0):=by
 have:=BK (c:=c) hji hj (trF x) b a ha;rw[cK]at this⊢;rw[aS n (G:=fun p=>trF x b p*Gv i j c p a) (fun p _=>by rw[Int.mul_comm];rfl),this];rfl
theorem KC {n i j:Nat} {c:Int} (hji:j≠i) (hj:j<n) (f:FF) (a b:Nat) (ha:a<n) (hb:b<n):cngF n f (Gv i j c) a b=eG f i j c a b:=by
 unfold cngF;rw[BK hji hj _ a b hb,Gx hji hj f a b ha,Gx hji hj f a j ha];unfold eG;by_cases h1:a=i
 ·by_cases h2:b=i
  ·simp only[h1,h2,if_true];grind
  simp only[h1,h2,if_true,if_false];grind
 by_cases h2:b=i
 ·simp only[h1,h2,if_true,if_false];grind
 simp only[h1,h2,if_false];omega
theorem KU (m p b:Nat):idF (nM m p) b=idF p (nM m b):=by
 unfold idF;have:nM m p=b↔p=nM m b:=⟨fun h=>by rw[<- h,DM],fun h=>by rw[h,DM]⟩;simp only[this]
theorem BL {n m:Nat} (hm:m+1<n) (x:FF) (a b:Nat) (hb:b<n):em n x (F5 m) a b=x a (nM m b):=by
 rw[cK,aS n (G:=fun p=>x a p*idF p (nM m b)) (fun p _=>by rw[<- KU];rfl),uJ (oM hm hb)]
theorem OC {n m:Nat} (hm:m+1<n) (x:FF) (a b:Nat) (ha:a<n):em n (trF (F5 m)) x a b=x (nM m a) b:=by
 have:=BL hm (trF x) b a ha;rw[cK]at this⊢;rw[aS n (G:=fun p=>trF x b p*F5 m p a) (fun p _=>by rw[Int.mul_comm];rfl),this];rfl
theorem NF {n m:Nat} (hm:m+1<n) (f:FF) (a b:Nat) (ha:a<n) (hb:b<n):cngF n f (F5 m) a b=i6 f m a b:=by
 unfold cngF;rw[BL hm _ a b hb,OC hm f a _ ha];rfl
/-! Which change is made. -/
inductive Ch where
 |add (i j:Nat)
 |swp (m:Nat)
instance (f:FF) (i j:Nat):Decidable (jy f i j):=by unfold jy;exact inferInstance
instance (f:FF) (i:Nat):Decidable (l7 f i):=by unfold l7;exact inferInstance
def scanJ (f:FF) (i:Nat):Nat->Option Nat
 |0=>none
 |j+1=>if jy f i j then scanJ f i j else some j
def scanI (f:FF):Nat->Nat->Option Ch
 |0,_=>none
 |m+1,i=>match scanJ f i i with
  |some j=>some (.add i j)
  |none=>if 0<i/\ ¬l7 f i then some (.swp (i-1))else scanI f m (i+1)
def scanF (f:FF) (n:Nat):Option Ch:=scanI f n 0
theorem lK {f:FF} {i:Nat}: ∀{k},scanJ f i k=none-> ∀j,j<k->jy f i j
 |k+1,h,j,hj=>by
  unfold scanJ at h;split at h
  ·rename_i hs;by_cases e:j=k
   ·subst e;exact hs
   exact lK h j (by omega)
  cases h
theorem ux {f:FF} {i j:Nat}: ∀{k},scanJ f i k=some j->j<k/\ ¬jy f i j/\ ∀j',j<j'->j'<k->jy f i j'
 |k+1,h=>by
  unfold scanJ at h;split at h
  ·rename_i hs;obtain⟨h1,h2,h3⟩:=ux h;refine⟨by omega,h2,fun j' g1 g2=>?_⟩;by_cases e:j'=k
   ·subst e;exact hs
   exact h3 j' g1 (by omega)
  rename_i hs;injection h with h
  subst h;exact⟨by omega,hs,fun j' g1 g2=>by omega⟩
def qU (f:FF) (i:Nat):Prop:=(∀j,j<i->jy f i j)/\(0<i->l7 f i)
theorem uv {f:FF}: ∀{m i},scanI f m i=none-> ∀i',i<=i'->i'<i+m->qU f i'
 |0,i,_,i',h1,h2=>by omega
 |m+1,i,h,i',h1,h2=>by
  unfold scanI at h;split at h
  ·cases h
  rename_i hj;split at h
  ·cases h
  rename_i hl;by_cases e:i'=i
  ·subst e;exact⟨lK hj,fun h0=>by
    by_cases hL:l7 f i'
    ·exact hL
    exact absurd ⟨h0,hL⟩ hl⟩
  exact uv h i' (by omega) (by omega)
def PI (f:FF):Ch->Prop
 | .add i j=>j<i/\ ¬jy f i j/\(∀j',j<j'->j'<i->jy f i j')/\ ∀i',i'<i->qU f i'
 | .swp m=> ¬l7 f (m+1)/\(∀j,j<m+1->jy f (m+1) j)/\ ∀i',i'<m+1->qU f i'
def CR:Ch->Nat
 | .add i _=>i
 | .swp m=>m+1
theorem uw {f:FF} {c:Ch}: ∀{m i},(∀i',i'<i->qU f i')->scanI f m i=some c->PI f c/\CR c<i+m
 |m+1,i,hi,h=>by
  unfold scanI at h;split at h
  ·rename_i j hj;injection h with h
   subst h;obtain⟨h1,h2,h3⟩:=ux hj;exact⟨⟨h1,h2,h3,hi⟩,by simp[CR]⟩
  rename_i hj;split at h
  ·rename_i hl;injection h with h
   subst h;have e:i-1+1=i:=by omega
   refine⟨⟨by rw[e];exact hl.2,by rw[e];exact lK hj,by rw[e];exact hi⟩,by simp[CR];omega⟩
  rename_i hl;have:=uw (m:=m) (i:=i+1) (fun i' h'=>by
   by_cases e:i'=i
   ·subst e;exact⟨lK hj,fun h0=>by
     by_cases hL:l7 f i'
     ·exact hL
     exact absurd ⟨h0,hL⟩ hl⟩
   exact hi i' (by omega)) h
  exact⟨this.1,by omega⟩
theorem ia {f:FF} {n:Nat} {c:Ch} (h:scanF f n=some c):PI f c/\CR c<n:=by
 have:=uw (f:=f) (m:=n) (i:=0) (fun i' h=>by omega) h;exact⟨this.1,by omega⟩
theorem B9 {f:FF} {n:Nat} (h:scanF f n=none):O7 f n:=fun i hi=>uv (m:=n) (i:=0) h i (by omega) (by omega)
def uL (i:Nat):Nat:=i*(i-1)/2
def zL:Ch->Nat
 | .add i j=>uL i+(i-1-j)
 | .swp m=>uL (m+2)
theorem kJ (i:Nat):uL (i+1)=uL i+i:=by
 unfold uL;cases i with
 |zero=>rfl
 |succ i=>
  rw[Nat.add_sub_cancel,Nat.add_sub_cancel];have:(i+1+1)*(i+1)=(i+1)*i+2*(i+1):=by rw[Nat.add_mul,Nat.one_mul,Nat.mul_add,Nat.mul_add,Nat.add_mul];omega
  rw[this,Nat.add_mul_div_left _ _ (by omega)]
theorem i7 {i j:Nat} (h:i<=j):uL i<=uL j:=by
 induction j with
 |zero=>have:i=0:=(by omega);subst this;exact af _
 |succ j ih=>
  by_cases e:i=j+1
  ·subst e;exact af _
  have:=ih (by omega);rw[kJ];omega
def rankF (f:FF) (n:Nat):Nat:=match scanF f n with
 |some c=>zL c
 |none=>uL n
theorem pC (f:FF) (n:Nat):rankF f n<=uL n:=by
 unfold rankF;split
 ·rename_i c hc;obtain⟨h1,h2⟩:=ia hc;cases c with
  |add i j=>
   have h2:i<n:=h2;have:=i7 (show i+1<=n by omega);rw[kJ]at this;obtain⟨h1,_⟩:=h1;simp only[zL];omega
  |swp m=>
   have h2:m+1<n:=h2;exact i7 (show m+2<=n by omega)
 exact af _
theorem Lu {f:FF} {n i j:Nat} (hj:j<i) (hi:i<n) (h1: ∀i',i'<i->qU f i') (h2: ∀j',j<=j'->j'<i->jy f i j'):uL i+(i-1-j)<rankF f n:=by
 have hni:=i7 (show i+1<=n by omega);rw[kJ]at hni;unfold rankF;split
 ·rename_i c hc;obtain⟨g1,g2⟩:=ia hc;cases c with
  |add i' j'=>
   obtain⟨a1,a2,a3,a4⟩:=g1;simp only[zL];rcases Nat.lt_trichotomy i' i with h|h|h
   ·exact absurd ((h1 i' h).1 j' a1) a2
   ·subst h;by_cases e:j<=j'
    ·exact absurd (h2 j' e a1) a2
    omega
   have:=i7 (show i+1<=i' by omega);rw[kJ]at this;omega
  |swp m=>
   obtain⟨a1,a2,a3⟩:=g1;simp only[zL];by_cases h:m+1<i
   ·exact absurd ((h1 (m+1) h).2 (by omega)) a1
   have:=i7 (show i+1<=m+2 by omega);rw[kJ]at this;omega
 omega
section
theorem yE {B:Nat} {d1 d0 x y u v:Int} (h1:0<d1) (h0:d0.natAbs<=B) (h:d1*x=d0*y+u*v):x.natAbs<=B*y.natAbs+u.natAbs*v.natAbs:=by
 have e1:d1.natAbs*x.natAbs=(d0*y+u*v).natAbs:=by rw[<- Int.natAbs_mul,h]
 have e2:=Int.natAbs_add_le (d0*y) (u*v);rw[Int.natAbs_mul,Int.natAbs_mul]at e2;have e3:d0.natAbs*y.natAbs<=B*y.natAbs:=Nat.mul_le_mul_right _ h0;have e4:x.natAbs<=d1.natAbs*x.natAbs:=Nat.le_mul_of_pos_left _ (by omega);omega
theorem H7 {d1 d0 x y l:Int} (h1:0<d1) (h0:0<d0) (hx:0<x) (hy:0<y) (h:d1*x=d0*y+l*l):d1.natAbs*x.natAbs=d0.natAbs*y.natAbs+l.natAbs*l.natAbs:=by
 apply Int.ofNat_inj.1;rw[Int.natCast_add,Int.natCast_mul,Int.natCast_mul,Int.natCast_mul,Int.natAbs_of_nonneg (by omega),Int.natAbs_of_nonneg (by omega),Int.natAbs_of_nonneg (by omega),Int.natAbs_of_nonneg (by omega),Int.natAbs_mul_self',h]
structure Def (f:FF) (n B:Nat):Prop where
 sym:SymF f n
 pos: ∀t,t<n->0<dk f (t+1)
 le: ∀k,k<=n->(dk f k).natAbs<=B
section
variable {f:FF} {n B:Nat}
theorem Def.ne (h:Def f n B): ∀t,t<n->dk f (t+1)≠0:=fun t ht=>by have:=h.pos t ht;omega
theorem Def.pos0 (h:Def f n B) {k:Nat} (hk:k<=n):0<dk f k:=by
 cases k with
 |zero=>rw[de];omega
 |succ k=>exact h.pos k (by omega)
theorem Def.sylv (h:Def f n B) {k a b:Nat} (hk:k<n) (ha:a<n) (hb:b<n):dk f (k+1)*bk f k a b=dk f k*bk f (k+1) a b+bk f k a k*bk f k b k:=by
 have s:=Go.Proofs.YtiollbhgpiiodaaGreatDoor.sylv f k (fun t ht=>h.ne t (by omega)) a b;rw[jU h.sym k (by omega) (fun t ht=>h.ne t (by omega)) k b hk hb]at s;omega
theorem Def.diag (h:Def f n B) {a:Nat} (ha:a<n): ∀m k,a-k=m->k<=a->0<bk f k a a
 |0,k,hm,hk=>by
  have:k=a:=by omega
  subst this;rw[<- b8];exact h.pos k ha
 |m+1,k,hm,hk=>by
  have ih:=h.diag ha m (k+1) (by omega) (by omega);have s:=h.sylv (k:=k) (by omega) ha ha;have p1:=h.pos k (by omega);have p0:=h.pos0 (k:=k) (by omega);have q1:=Int.mul_pos p0 ih;have q2:0<=bk f k a k*bk f k a k:=by
   rcases Int.le_total 0 (bk f k a k)with h|h
   ·exact Int.mul_nonneg h h
   exact Int.mul_nonneg_of_nonpos_of_nonpos h h
  rcases Int.lt_or_le 0 (bk f k a a)with h|h
  ·exact h
  have:=Int.mul_nonpos_of_nonneg_of_nonpos (Int.le_of_lt p1) h;omega
theorem Def.down (h:Def f n B) {a k:Nat} (ha:a<n) (hk:k<a):(bk f k a k).natAbs*(bk f k a k).natAbs<=B*(bk f k a a).natAbs/\(bk f (k+1) a a).natAbs<=B*(bk f k a a).natAbs:=by
 have s:=H7 (h.pos k (by omega)) (h.pos0 (k:=k) (by omega)) (h.diag ha _ k rfl (by omega)) (h.diag ha _ (k+1) rfl (by omega)) (h.sylv (k:=k) (by omega) ha ha);have hB:=Nat.mul_le_mul_right (bk f k a a).natAbs (h.le (k+1) (by omega));have p0:=h.pos0 (k:=k) (by omega);have:=Nat.le_mul_of_pos_left (bk f (k+1) a a).natAbs (show 0<(dk f k).natAbs by omega);omega
theorem Def.nm (h:Def f n B) {a:Nat} (ha:a<n): ∀k,k<=a->(bk f k a a).natAbs<=B^k*(f a a).natAbs
 |0,_=>by rw[dr];simp
 |k+1,hk=>by
  have h1:=(h.down ha (show k<a by omega)).2;have h2:=aC B (h.nm ha k (by omega));rw[Nat.pow_succ,Nat.mul_comm (B^k) B,Nat.mul_assoc];omega
theorem Def.lam_le (h:Def f n B) {a k C:Nat} (ha:a<n) (hk:k<a) (hB:1<=B) (hC:(f a a).natAbs<=C):(bk f k a k).natAbs<=B^n*C:=by
 have h1:=(h.down ha hk).1;have h2:=aC B (h.nm ha k (by omega));have h3:(bk f k a k).natAbs<=(bk f k a k).natAbs*(bk f k a k).natAbs:=Nat.le_mul_self _;have h4:B*(B^k*(f a a).natAbs)=B^(k+1)*(f a a).natAbs:=by rw[Nat.pow_succ,Nat.mul_comm (B^k) B,Nat.mul_assoc]
 have h5:B^(k+1)<=B^n:=aE hB (by omega);have h6:B^(k+1)*(f a a).natAbs<=B^n*C:=Nat.mul_le_mul h5 hC;omega
theorem Def.up (h:Def f n B) {a L:Nat} (ha:a<n) (hL: ∀k,k<a->(bk f k a k).natAbs<=L): ∀m k,a-k=m->k<=a->(bk f k a a).natAbs<=(B+L*L)*(B+1)^m
 |0,k,hm,hk=>by
  have:k=a:=by omega
  subst this;rw[<- b8];have:=h.le (k+1) (by omega)
  simp;omega
 |m+1,k,hm,hk=>by
  have ih:=h.up ha hL m (k+1) (by omega) (by omega);have s:=yE (h.pos k (by omega)) (h.le k (by omega)) (h.sylv (k:=k) (by omega) ha ha);have hl:=hL k (by omega);have h2:=Nat.mul_le_mul hl hl;have h3:=aC B ih;have h4:L*L<=(B+L*L)*(B+1)^m:=aB (by omega) (Nat.le_mul_of_pos_right _ (Nat.pow_pos (by omega)));rw[Nat.pow_succ,<- Nat.mul_assoc,Nat.mul_add,Nat.mul_one,Nat.mul_comm _ B];omega
theorem Def.norm_le (h:Def f n B) {a L:Nat} (ha:a<n) (hL: ∀k,k<a->(bk f k a k).natAbs<=L):(f a a).natAbs<=(B+L*L)*(B+1)^n:=by
 have h1:=h.up ha hL a 0 rfl (by omega);rw[dr]at h1;exact aB h1 (aC _ (aE (by omega) (by omega)))
theorem Def.ent_up (h:Def f n B) {a b L:Nat} (ha:a<n) (hb:b<a) (hL: ∀a k,a<n->k<a->(bk f k a k).natAbs<=L): ∀m k,b-k=m->k<=b->(bk f k a b).natAbs<=(L+L*L)*(B+1)^m
 |0,k,hm,hk=>by
  have:k=b:=by omega
  subst this;have:=hL a k ha hb
  simp;omega
 |m+1,k,hm,hk=>by
  have ih:=h.ent_up ha hb hL m (k+1) (by omega) (by omega);have s:=yE (h.pos k (by omega)) (h.le k (by omega)) (h.sylv (k:=k) (a:=a) (b:=b) (by omega) ha (by omega));have h2:=Nat.mul_le_mul (hL a k ha (by omega)) (hL b k (by omega) (by omega));have h3:=aC B ih;have h4:L*L<=(L+L*L)*(B+1)^m:=aB (by omega) (Nat.le_mul_of_pos_right _ (Nat.pow_pos (by omega)));rw[Nat.pow_succ,<- Nat.mul_assoc,Nat.mul_add,Nat.mul_one,Nat.mul_comm _ B];omega
theorem Def.ent_le (h:Def f n B) {L:Nat} (hL: ∀a k,a<n->k<a->(bk f k a k).natAbs<=L) {a b:Nat} (ha:a<n) (hb:b<n):(f a b).natAbs<=(B+L+L*L)*(B+1)^n:=by
 have key: ∀a b,a<n->b<a->(f a b).natAbs<=(B+L+L*L)*(B+1)^n:=fun a b ha hb=>by
  have h1:=h.ent_up ha hb hL b 0 rfl (by omega);rw[dr]at h1;refine aB h1 (Nat.mul_le_mul (by omega) (aE (by omega) (by omega)))
 rcases Nat.lt_trichotomy a b with h'|h'|h'
 ·rw[h.sym a ha b hb];exact key b a hb h'
 ·subst h';have h1:=h.norm_le ha (fun k hk=>hL a k ha hk);exact aB h1 (Nat.mul_le_mul_right _ (by omega))
 exact key a b ha h'
end
/-! The numbers of the reduction. -/
section
variable {f:FF} {n B:Nat}
def cN (n B:Nat):Nat:=(B+B*B)*(B+1)^n
def l0 (n B:Nat):Nat:=B^n*cN n B
theorem uD (h:Def f n B) {i j:Nat} (hi:i<n) (hj:j<i):jy f i j↔2*((bk f j i j).natAbs:Int)<=dk f (j+1):=by
 rw[jy,oy h.pos (by omega),jE h.pos (by omega)]
theorem BD (h:Def f n B) {i:Nat} (hi:i<n) (h0:0<i):l7 f i↔3*(dk f i*dk f i)<=4*(dk f (i-1)*dk f (i+1)+bk f (i-1) i (i-1)*bk f (i-1) i (i-1)):=by
 rw[l7,oy h.pos (by omega),jE h.pos (by omega),jE h.pos (by omega),jE h.pos (by omega)]
theorem Ci (h:Def f n B) {i j:Nat} (hi:i<n) (hj:j<i) (hs:jy f i j):(bk f j i j).natAbs<=B:=by
 have h1:=(uD h hi hj).1 hs;have h2:=h.le (j+1) (by omega);omega
theorem qD (h:Def f n B) {i:Nat} (hi:i<n) (hs: ∀j,j<i->jy f i j):(f i i).natAbs<=cN n B:=h.norm_le hi fun k hk=>Ci h hi hk (hs k hk)
def Jn (f:FF) (n B:Nat):Prop:=(∀a,a<n->(f a a).natAbs<=cN n B)\/
 ∃i,i<n/\(∀a,a<n->a≠i->(f a a).natAbs<=cN n B)/\(∀i',i'<i->qU f i')/\ ∃s,s<=i/\(∀j',s<=j'->j'<i->jy f i j')/\ ∀k,k<i->(bk f k i k).natAbs+2<=(l0 n B+2)*(B+2)^(i-s)
def lM (n B:Nat):Nat:=(l0 n B+2)*(B+2)^n
theorem Jn.lam (h:Def f n B) (hB:1<=B) (hj:Jn f n B): ∀a k,a<n->k<a->(bk f k a k).natAbs<=lM n B:=by
 have h1:l0 n B<=lM n B:=aB (by omega) (Nat.le_mul_of_pos_right _ (Nat.pow_pos (by omega)));have h2: ∀e,e<=n->(l0 n B+2)*(B+2)^e<=lM n B:=fun e he=>aC _ (aE (by omega) he)
 rcases hj with hj|⟨i,hi,hj,_,s,hs,_,hl⟩
 ·exact fun a k ha hk=>aB (h.lam_le ha hk hB (hj a ha)) h1
 intro a k ha hk;by_cases e:a=i
 ·subst e;have:=hl k hk;have:=h2 (a-s) (by omega);omega
 exact aB (h.lam_le ha hk hB (hj a ha e)) h1
def eN (n B:Nat):Nat:=(B+lM n B+lM n B*lM n B)*(B+1)^n
theorem Jn.ent (h:Def f n B) (hB:1<=B) (hj:Jn f n B) {a b:Nat} (ha:a<n) (hb:b<n):(f a b).natAbs<=eN n B:=h.ent_le (hj.lam h hB) ha hb
end
end
section
theorem Ls {l d:Int} (hd:0<d):2*((l+ -(qF l d)*d).natAbs:Int)<=d:=by
 unfold qF;have h1:=Int.emod_add_mul_ediv (2*l+d) (2*d);have h2:=Int.emod_nonneg (2*l+d) (show 2*d≠0 by omega);have h3:=Int.emod_lt_of_pos (2*l+d) (show 0<2*d by omega);generalize(2*l+d)/(2*d)=q at*
 have e:2*d*q=2*(q*d):=by rw[Int.mul_assoc,Int.mul_comm d q]
 rw[e]at h1;have e2: -q*d= -(q*d):=Int.neg_mul q d;rw[e2];omega
theorem BY {l d:Int} (hd:0<d):(qF l d).natAbs<=l.natAbs+1:=by
 unfold qF;have h1:=Int.emod_add_mul_ediv (2*l+d) (2*d);have h2:=Int.emod_nonneg (2*l+d) (show 2*d≠0 by omega);have h3:=Int.emod_lt_of_pos (2*l+d) (show 0<2*d by omega);generalize(2*l+d)/(2*d)=q at*
 have e:2*d*q=2*(d*q):=Int.mul_assoc 2 d q;rw[e]at h1;have e2:(d*q).natAbs=d.natAbs*q.natAbs:=Int.natAbs_mul d q;have e3:l.natAbs<=d.natAbs*l.natAbs:=Nat.le_mul_of_pos_left _ (by omega);rcases Nat.lt_or_ge (l.natAbs+1) q.natAbs with h|h
 ·exfalso;have h4:=aC d.natAbs (show l.natAbs+2<=q.natAbs by omega);rw[Nat.mul_add]at h4;omega
 exact h
section
variable {f:FF} {n B:Nat}
theorem Gy (hs:SymF f n) {i j:Nat} (c:Int) (hj:j<n):SymF (eG f i j c) n:=fun a ha b hb=>by
 by_cases hab:a=b
 ·subst hab;rfl
 unfold eG;rw[hs a ha b hb];by_cases h1:a=i
 ·by_cases h2:b=i
  ·omega
  simp only[h1,h2,if_true,if_false];rw[hs j hj b hb];omega
 by_cases h2:b=i
 ·simp only[h1,h2,if_true,if_false];rw[hs a ha j hj];omega
 simp only[h1,h2,if_false]
theorem Def.add (h:Def f n B) {i j:Nat} (c:Int) (hji:j<i) (hi:i<n):Def (eG f i j c) n B:=by
 obtain⟨h1,_⟩:=jf h.sym h.ne c hji hi;exact⟨Gy h.sym c (by omega),fun t ht=>by rw[h1 (t+1) (by omega)];exact h.pos t ht,fun k hk=>by rw[h1 k hk];exact h.le k hk⟩
theorem wn (h:Def f n B) {i j:Nat} (c:Int) (hji:j<i) (hi:i<n) {i':Nat} (hi':i'<i) (hr:qU f i'):qU (eG f i j c) i':=by
 have h':=h.add c hji hi;obtain⟨h1,h2,h3⟩:=jf h.sym h.ne c hji hi;have hb: ∀k,k<i'->bk (eG f i j c) k i' k=bk f k i' k:=fun k hk=>by
  by_cases e:k<=j
  ·rw[h2 k i' k e,sH (by omega) (by omega)]
  exact h3 k i' k (by omega) (by omega) (by omega) (by omega)
 refine⟨fun k hk=>?_,fun h0=>?_⟩
 ·rw[uD h' (by omega) hk,hb k hk,h1 _ (by omega)];exact(uD h (by omega) hk).1 (hr.1 k hk)
 rw[BD h' (by omega) h0,hb _ (by omega),h1 _ (by omega),h1 _ (by omega),h1 _ (by omega)];exact(BD h (by omega) h0).1 (hr.2 h0)
def cF (f:FF) (i j:Nat):Int:= -(qF (lam f i j) (dd f (j+1)))
theorem GH (h:Def f n B) {i j:Nat} (hj:j<n):cF f i j= -(qF (bk f j i j) (dk f (j+1))):=by rw[cF,oy h.pos hj,jE h.pos (by omega)]
theorem xZ (h:Def f n B) {i j:Nat} (hji:j<i) (hi:i<n) {j':Nat} (h1:j<=j') (h2:j'<i) (hs:j<j'->jy f i j'):jy (eG f i j (cF f i j)) i j':=by
 have h':=h.add (cF f i j) hji hi;obtain⟨g1,g2,g3⟩:=jf h.sym h.ne (cF f i j) hji hi;rw[uD h' hi h2,g1 _ (by omega)];by_cases e:j'=j
 ·subst e;rw[g2 j' i j' (by omega)];have:eG (bk f j') i j' (cF f i j') i j'=bk f j' i j'+cF f i j'*dk f (j'+1):=by
   unfold eG;have hn: ¬j'=i:=by omega
   simp only[if_true,hn,if_false];rw[b8];omega
  rw[this,GH h (by omega)];exact Ls (h.pos j' (by omega))
 rw[g3 j' i j' (by omega) (by omega) hi (by omega)];exact(uD h hi h2).1 (hs (by omega))
theorem Ng (h:Def f n B) (hB:1<=B) (hJ:Jn f n B) {i j:Nat} (hF:PI f (.add i j)) (hi:i<n):Jn (eG f i j (cF f i j)) n B:=by
 obtain⟨hji,hns,hs,hr⟩:=hF;obtain⟨g1,g2,g3⟩:=jf h.sym h.ne (cF f i j) hji hi;have hoff: ∀a,a≠i->eG f i j (cF f i j) a a=f a a:=fun a ha=>sH ha ha
 -- the new lambdas of row i
 have hnew: ∀M:Nat,(∀k,k<i->(bk f k i k).natAbs+2<=M)-> ∀k,k<i->(bk (eG f i j (cF f i j)) k i k).natAbs+2<=M*(B+2):=fun M hM k hk=>by
  have hMk:=hM k hk;have hMj:=hM j hji;have e0:M*(B+2)=M*B+2*M:=by rw[Nat.mul_add,Nat.mul_comm M 2]
  rcases Nat.lt_trichotomy k j with e|e|e
  ·rw[g2 k i k (by omega)];have e1:eG (bk f k) i j (cF f i j) i k=bk f k i k+cF f i j*bk f k j k:=by
    unfold eG;have hn: ¬k=i:=by omega
    simp only[if_true,hn,if_false];omega
   rw[e1];have a1:=Int.natAbs_add_le (bk f k i k) (cF f i j*bk f k j k);rw[Int.natAbs_mul]at a1;have a2:(cF f i j).natAbs<=(bk f j i j).natAbs+1:=by rw[GH h (by omega),Int.natAbs_neg];exact BY (h.pos j (by omega))
   have a3:(bk f k j k).natAbs<=B:=Ci h (by omega) e ((hr j hji).1 k e);have a4:=Nat.mul_le_mul (show(cF f i j).natAbs<=M by omega) a3;omega
  ·subst e;have hz:=xZ h hji hi (af k) hk (fun h=>by omega);have:=Ci (h.add (cF f i k) hji hi) hi hk hz;have:B<=M*B:=Nat.le_mul_of_pos_left _ (by omega);omega
  rw[g3 k i k (by omega) (by omega) hi (by omega)];have:0<=M*B:=Nat.zero_le _;omega
 have hfin: ∀M e:Nat,1<=e->e<=i-j->M*(B+2)<=(l0 n B+2)*(B+2)^e->(∀a,a<n->a≠i->(f a a).natAbs<=cN n B)->(∀k,k<i->(bk f k i k).natAbs+2<=M)->Jn (eG f i j (cF f i j)) n B:=fun M e he1 he2 hMe hA hM=>by
  refine .inr ⟨i,hi,fun a ha hne=>by rw[hoff a hne];exact hA a ha hne,fun i' hi'=>wn h _ hji hi hi' (hr i' hi'),j,by omega,fun j' h1 h2=>xZ h hji hi h1 h2 (fun h3=>hs j' h3 h2),fun k hk=>?_⟩;refine aB (hnew M hM k hk) (aB hMe (aC _ (aE (by omega) he2)))
 rcases hJ with hA|⟨i1,hi1,hA,hr1,s,hs1,hs2,hl⟩
 ·refine hfin (l0 n B+2) 1 (by omega) (by omega) (by rw[Nat.pow_one];exact af _) (fun a ha _=>hA a ha) (fun k hk=>?_);have:(bk f k i k).natAbs<=l0 n B:=h.lam_le hi hk hB (hA i hi);omega
 by_cases e:i1=i
 ·subst e;have hjs:j<s:=by
   rcases Nat.lt_or_ge j s with h'|h'
   ·exact h'
   exact absurd (hs2 j h' hji) hns
  refine hfin ((l0 n B+2)*(B+2)^(i1-s)) (i1-s+1) (by omega) (by omega) (by rw[Nat.pow_succ,Nat.mul_assoc];exact af _) hA hl
 have hall:(f i1 i1).natAbs<=cN n B:=by
  rcases Nat.lt_or_ge i1 i with h'|h'
  ·exact qD h hi1 (hr i1 h').1
  exact absurd ((hr1 i (by omega)).1 j hji) hns
 have hA': ∀a,a<n->(f a a).natAbs<=cN n B:=fun a ha=>by
  by_cases e':a=i1
  ·subst e';exact hall
  exact hA a ha e'
 refine hfin (l0 n B+2) 1 (by omega) (by omega) (by rw[Nat.pow_one];exact af _) (fun a ha _=>hA' a ha) (fun k hk=>?_);have:(bk f k i k).natAbs<=l0 n B:=h.lam_le hi hk hB (hA' i hi);omega
theorem wA (h:Def f n B) {m:Nat} (hm:m+1<n) (hl: ¬l7 f (m+1)):4*dk (i6 f m) (m+1)<3*dk f (m+1)/\0<dk (i6 f m) (m+1):=by
 obtain⟨h1,h2⟩:=uK h.sym h.pos hm;refine⟨?_,h2⟩;have h3: ¬3*(dk f (m+1)*dk f (m+1))<=4*(dk f m*dk f (m+2)+bk f m (m+1) m*bk f m (m+1) m):=fun hh=>hl ((BD h hm (by omega)).2 hh)
 rw[<- h1]at h3;have p:=h.pos m (by omega);rcases Int.lt_or_le (4*dk (i6 f m) (m+1)) (3*dk f (m+1))with h4|h4
 ·exact h4
 exfalso;have h5:=Int.mul_le_mul_of_nonneg_left h4 (Int.le_of_lt p);have e1:dk f (m+1)*(3*dk f (m+1))=3*(dk f (m+1)*dk f (m+1)):=Int.mul_left_comm _ _ _;have e2:dk f (m+1)*(4*dk (i6 f m) (m+1))=4*(dk f (m+1)*dk (i6 f m) (m+1)):=Int.mul_left_comm _ _ _;omega
theorem Def.swap (h:Def f n B) {m:Nat} (hm:m+1<n) (hl: ¬l7 f (m+1)):Def (i6 f m) n B:=by
 obtain⟨h1,_⟩:=mU h.sym h.pos hm;obtain⟨g1,g2⟩:=wA h hm hl;have p:=h.pos m (by omega);refine⟨fun a ha b hb=>h.sym _ (oM hm ha) _ (oM hm hb),fun t ht=>?_,fun k hk=>?_⟩
 ·by_cases e:t=m
  ·subst e;exact g2
  rw[h1 (t+1) (by omega) (by omega)];exact h.pos t ht
 by_cases e:k=m+1
 ·subst e;have:=h.le (m+1) hk;omega
 rw[h1 k hk e];exact h.le k hk
theorem Kc (h:Def f n B) (hJ:Jn f n B) {m:Nat} (hF:PI f (.swp m)) (hm:m+1<n):Jn (i6 f m) n B:=by
 obtain⟨hnl,hs,hr⟩:=hF;have hA: ∀a,a<n->(f a a).natAbs<=cN n B:=by
  rcases hJ with hA|⟨i,hi,hA,hr1,_⟩
  ·exact hA
  intro a ha;by_cases e:a=i
  ·subst e;rcases Nat.lt_trichotomy a (m+1)with h'|h'|h'
   ·exact qD h ha (hr a h').1
   ·subst h';exact qD h ha hs
   exact absurd ((hr1 (m+1) h').2 (by omega)) hnl
  exact hA a ha e
 exact .inl fun a ha=>hA _ (oM hm ha)
def prD (f:FF):Nat->Nat
 |0=>1
 |k+1=>prD f k*(dk f (k+1)).natAbs
theorem qy {g:FF}: ∀k,(∀t,t<k->dk g (t+1)=dk f (t+1))->prD g k=prD f k
 |0,_=>rfl
 |k+1,h=>by rw[prD,prD,qy k (fun t ht=>h t (by omega)),h k (by omega)]
theorem DG (h:Def f n B): ∀k,k<=n->0<prD f k
 |0,_=>by simp[prD]
 |k+1,hk=>by
  have:=h.pos k (by omega);exact Nat.mul_pos (DG h k (by omega)) (by omega)
theorem It (h:Def f n B): ∀k,k<=n->prD f k<=B^k
 |0,_=>by simp[prD]
 |k+1,hk=>by rw[prD,Nat.pow_succ];exact Nat.mul_le_mul (It h k (by omega)) (h.le (k+1) hk)
theorem zG (h:Def f n B) {m:Nat} (hm:m+1<n) (hl: ¬l7 f (m+1)): ∀k,m<k->k<=n->4*prD (i6 f m) k<=3*prD f k
 |k+1,hk,hkn=>by
  obtain⟨h1,_⟩:=mU h.sym h.pos hm;obtain⟨g1,g2⟩:=wA h hm hl;have p:=h.pos m (by omega);rw[prD,prD];by_cases e:k=m
  ·subst e;rw[qy k (fun t ht=>h1 (t+1) (by omega) (by omega)),Nat.mul_left_comm,Nat.mul_left_comm 3];exact aC _ (by omega)
  have ih:=zG h hm hl k (by omega) (by omega);rw[h1 (k+1) hkn (by omega),<- Nat.mul_assoc,<- Nat.mul_assoc];exact Nat.mul_le_mul_right _ ih
end
/-! Bounds of the minors of a matrix of small entries. -/
theorem Ht {E:Nat} {r:Nat->Int} (hr: ∀c,(r c).natAbs<=E) {M:Nat}: ∀(cs:List Nat) (N:Nat) (F:List Nat->Int),cs.length<=N->(∀l,l.length<=N->(F l).natAbs<=M)->(dn r F cs).natAbs<=cs.length*(E*M)
 |[],_,_,_,_=>by simp[dn]
 |c::cs,N,F,hN,hF=>by
  rw[dn];have h1:=Int.natAbs_sub_le (r c*F cs) (dn r (fun l=>F (c::l)) cs);have h2:=Ht hr cs (N-1) (fun l=>F (c::l)) (by simp at hN;omega) (fun l hl=>hF (c::l) (by simp at hN⊢;omega));rw[Int.natAbs_mul]at h1;have h3:=Nat.mul_le_mul (hr c) (hF cs (by simp at hN;omega));rw[List.length_cons,Nat.add_mul,Nat.one_mul];omega
theorem MQ {E L:Nat} {f:FF} (hf: ∀a b,(f a b).natAbs<=E): ∀k l,l.length<=L->(om f k l).natAbs<=(L*E)^k
 |0,l,_=>by simp[om]
 |k+1,l,hl=>by
  rw[om];have:=Ht (hf k) l L (om f k) hl (fun l hl=>MQ hf k l hl);have h2:l.length*(E*(L*E)^k)<=L*(E*(L*E)^k):=Nat.mul_le_mul_right _ hl;rw[Nat.pow_succ,Nat.mul_comm ((L*E)^k),Nat.mul_assoc];exact aB this h2
theorem C1: ∀k,(jV k).length=k
 |0=>rfl
 |k+1=>by rw[jV,List.length_cons,C1 k]
abbrev bB:Nat:=722204136308736
theorem NK {E L:Nat} (h1:1<=L*E) {f:FF} (hf: ∀a b,(f a b).natAbs<=E) {k:Nat} (hk:k<=L):(dk f k).natAbs<=(L*E)^L:=
 aB (MQ hf k (jV k) (by rw[C1];exact hk)) (aE h1 hk)
theorem Pi {f:FF} (hf: ∀a b,(f a b).natAbs<=9) {k:Nat} (hk:k<=8):(dk f k).natAbs<=bB:=by
 have h1:=NK (L:=8) (by decide) hf hk;have h3:((8*9:Nat))^8=bB:=by decide
 rwa[h3]at h1
end
section
def Qj (f:FF):Ch->Nat->Nat->Int
 | .add i j=>eG f i j (cF f i j)
 | .swp m=>i6 f m
def MG (f:FF):Ch->Nat->Nat->Int
 | .add i j=>Gv i j (cF f i j)
 | .swp m=>F5 m
inductive Rch (n:Nat):(Nat->Nat->Int)->(Nat->Nat->Int)->(Nat->Nat->Int)->(Nat->Nat->Int)->Prop
 |done (f t:FF) (h:scanF f n=none):Rch n f t f t
 |step (f t h T:FF) (c:Ch) (hc:scanF f n=some c) (hr:Rch n (Qj f c) (em n t (MG f c)) h T):Rch n f t h T
structure As (N B S Z:Nat):Prop where
 n8:N<=8
 b1:9<=B
 lMs: ∀n,n<N+1->lM n B+1<4294967296^Z
 eNs: ∀n,n<N+1->eN n B<4294967296^400
 pt: ¬4^S<=3^S*B^N
 sz:(Z+4)*(28*S+28)+1<=16000000
 z4:Z<=400
structure RedI (N B Z n:Nat) (f0 f t:FF) (s adds:Nat):Prop where
 dfn:Def f n B
 jn:Jn f n B
 det:dk f n=dk f0 n
 pot:4^s*prD f n<=3^s*B^N
 cnt:adds<=28*s+rankF f n
 szt: ∀a b,a<n->b<n->Sz (t a b) (1+(Z+4)*adds)
theorem Qh:As 8 bB 970 41:=⟨by decide,by decide,by decide+kernel,by decide+kernel,by decide+kernel,by decide,by decide⟩
theorem ya {n:Nat} (h:n<=8):uL n<=28:=aB (i7 h) (by decide)
theorem Lp {C:Nat} (K:Nat) (hK: ¬4^K<=3^K*C) (s:Nat) (hs:K<=s) (h1:4^s<=3^s*C):False:=by
 obtain⟨r,rfl⟩: ∃r,s=K+r:=⟨s-K,by omega⟩;rw[Nat.pow_add,Nat.pow_add]at h1;have h2:3^K*3^r*C<=3^K*C*4^r:=by
  rw[Nat.mul_assoc,Nat.mul_comm (3^r),<- Nat.mul_assoc];exact aC _ (Nat.pow_le_pow_left (by omega) r)
 exact hK (Nat.le_of_mul_le_mul_right (aB h1 h2) (Nat.pow_pos (by omega)))
section
variable {N B S Z:Nat} {n:Nat} {f0 f t:FF} {s adds:Nat}
theorem RedI.s_le (k:As N B S Z) (h:RedI N B Z n f0 f t s adds):s<S:=by
 rcases Nat.lt_or_ge s S with hs|hs
 ·exact hs
 exfalso;have p1:=DG h.dfn n (af _);have h1:4^s<=3^s*B^N:=aB (Nat.le_mul_of_pos_right _ p1) h.pot;exact Lp S k.pt s hs h1
theorem RedI.adds_le (k:As N B S Z) (h:RedI N B Z n f0 f t s adds) (hn:n<=N):adds<=28*S+28:=by
 have h1:=h.s_le k;have h2:=h.cnt;have h3:=pC f n;have h4:=ya (aB hn k.n8);omega
theorem RedI.szf (k:As N B S Z) (h:RedI N B Z n f0 f t s adds) (hn:n<=N) {a b:Nat} (ha:a<n) (hb:b<n):Sz (f a b) 400:=by
 have h1:=h.jn.ent h.dfn (aB (by decide) k.b1) ha hb;exact Nat.lt_of_le_of_lt h1 (k.eNs n (by omega))
theorem RedI.szc (k:As N B S Z) (h:RedI N B Z n f0 f t s adds) (hn:n<=N) {i j:Nat} (hi:i<n) (hj:j<i):Sz (cF f i j) Z:=by
 rw[GH h.dfn (by omega)];have h1:=BY (l:=bk f j i j) (h.dfn.pos j (by omega));have h2:=h.jn.lam h.dfn (aB (by decide) k.b1) i j hi hj;have h3:=k.lMs n (by omega);unfold Sz;rw[Int.natAbs_neg];generalize 4294967296^Z=p at*
 omega
theorem FA {c:Ch} (h:scanF f n=some c):rankF f n=zL c:=by unfold rankF;rw[h]
theorem RedI.add (k:As N B S Z) (h:RedI N B Z n f0 f t s adds) (hn:n<=N) {i j:Nat} (hc:scanF f n=some (.add i j)):RedI N B Z n f0 (eG f i j (cF f i j)) (em n t (Gv i j (cF f i j))) s (adds+1)/\rankF f n<rankF (eG f i j (cF f i j)) n:=by
 obtain⟨hF,hi⟩:=ia hc;have hi:i<n:=hi;obtain⟨hji,hns,hs,hr⟩:=id hF;have hrk:rankF f n<rankF (eG f i j (cF f i j)) n:=by
  rw[FA hc];exact Lu hji hi (fun i' hi'=>wn h.dfn _ hji hi hi' (hr i' hi')) (fun j' h1 h2=>xZ h.dfn hji hi h1 h2 (fun h3=>hs j' h3 h2))
 obtain⟨g1,_⟩:=jf h.dfn.sym h.dfn.ne (cF f i j) hji hi;have hcn:=h.cnt;refine⟨⟨h.dfn.add _ hji hi,Ng h.dfn (aB (by decide) k.b1) h.jn hF hi,by rw[g1 n (af _)];exact h.det,by rw[qy n (fun t ht=>g1 (t+1) (by omega))];exact h.pot,by omega,fun a b ha hb=>?_⟩,hrk⟩;rw[BK (by omega) (by omega) t a b hb];have z1:=h.szt a b ha hb;split
 ·have z2:=(h.szc k hn hi hji).mul (h.szt a j ha (by omega));exact(Sz.add (z1.mono (l:=Z+(1+(Z+4)*adds)) (by omega)) z2).mono (by rw[Nat.mul_add];omega)
 rw[Int.add_zero];exact z1.mono (by rw[Nat.mul_add];omega)
theorem RedI.swap (k:As N B S Z) (h:RedI N B Z n f0 f t s adds) (hn:n<=N) {m:Nat} (hc:scanF f n=some (.swp m)):RedI N B Z n f0 (i6 f m) (em n t (F5 m)) (s+1) adds:=by
 obtain⟨hF,hm⟩:=ia hc;have hm:m+1<n:=hm;obtain⟨hnl,_,_⟩:=id hF;obtain⟨g1,_⟩:=mU h.dfn.sym h.dfn.pos hm;have hcn:=h.cnt;have h3:=pC f n;have h4:=ya (aB hn k.n8);refine⟨h.dfn.swap hm hnl,Kc h.dfn h.jn hF hm,by rw[g1 n (af _) (by omega)];exact h.det,?_,by omega,fun a b ha hb=>?_⟩
 ·have p:=zG h.dfn hm hnl n (by omega) (af _);have q:=aC (4^s) p;have e1:4^(s+1)*prD (i6 f m) n=4^s*(4*prD (i6 f m) n):=by rw[Nat.pow_succ,Nat.mul_assoc]
  have e2:4^s*(3*prD f n)=3*(4^s*prD f n):=Nat.mul_left_comm _ _ _;have e3:3^(s+1)*B^N=3*(3^s*B^N):=by rw[Nat.pow_succ,Nat.mul_comm (3^s) 3,Nat.mul_assoc]
  rw[e1,e3];rw[e2]at q;exact aB q (aC 3 h.pot)
 rw[BL hm t a b hb];exact h.szt a _ ha (oM hm hb)
def ML (S n:Nat) (f:FF) (s:Nat):Nat:=(S-s)*30+(29-rankF f n)
theorem RedI.mu_add (k:As N B S Z) (h:RedI N B Z n f0 f t s adds) (hn:n<=N) {i j:Nat} (hc:scanF f n=some (.add i j)):ML S n (eG f i j (cF f i j)) s<ML S n f s:=by
 have h1:=(h.add k hn hc).2;have h2:=pC (eG f i j (cF f i j)) n;have h3:=ya (aB hn k.n8);unfold ML;omega
theorem RedI.mu_swap (k:As N B S Z) (h:RedI N B Z n f0 f t s adds) (hn:n<=N) {m:Nat} (hc:scanF f n=some (.swp m)):ML S n (i6 f m) (s+1)<ML S n f s:=by
 have h1:=(h.swap k hn hc).s_le k;have h2:=pC f n;have h3:=ya (aB hn k.n8);unfold ML;omega
theorem oI (k:As N B S Z) (hn:n<=N): ∀m f t s adds,ML S n f s<=m->RedI N B Z n f0 f t s adds-> ∃h T,Rch n f t h T
 |0,f,t,s,adds,hk,h=>by
  cases hc:scanF f n with
  |none=>exact⟨f,t,.done f t hc⟩
  |some c=>
   cases c with
   |add i j=>have:=h.mu_add k hn hc;omega
   |swp m=>have:=h.mu_swap k hn hc;omega
 |m+1,f,t,s,adds,hk,h=>by
  cases hc:scanF f n with
  |none=>exact⟨f,t,.done f t hc⟩
  |some c=>
   cases c with
   |add i j=>
    have:=h.mu_add k hn hc;obtain⟨g,T,hr⟩:=oI k hn m _ _ _ _ (by omega) (h.add k hn hc).1;exact⟨g,T,.step f t g T _ hc hr⟩
   |swp q=>
    have:=h.mu_swap k hn hc;obtain⟨g,T,hr⟩:=oI k hn m _ _ _ _ (by omega) (h.swap k hn hc);exact⟨g,T,.step f t g T _ hc hr⟩
theorem RedI.red (h:RedI N B Z n f0 f t s adds) (hn1:1<=n) (hd:dk f0 n<=10000) (hc:scanF f n=none):RedR f n:=by
 refine(Lz hn1).1 ⟨h.dfn.sym,fun k hk=>?_,?_,B9 hc⟩
 ·rw[o8 h.dfn.pos k hk];exact h.dfn.pos k hk
 have:=o8 h.dfn.pos (n-1) (by omega);rw[show n-1+1=n by omega]at this;rw[this,h.det];exact hd
theorem RedI.start_ (k:As N B S Z) (hn:n<=N) (hs:SymF f n) (hp:yn f n) (hdb: ∀k,k<=n->(dk f k).natAbs<=B) (hb: ∀a,a<n->(f a a).natAbs<=B) (ht: ∀a b,a<n->b<n->Sz (t a b) 1):RedI N B Z n f f t 0 0:=by
 have hpos: ∀k,k<n->0<dk f (k+1):=fun k hk=>(xJ hp k hk).1
 have hdef:Def f n B:=⟨hs,hpos,hdb⟩;have b1:=k.b1;refine⟨hdef,.inl fun a ha=>aB (hb a ha) ?_,rfl,?_,by omega,fun a b ha hb=>(ht a b ha hb).mono (by omega)⟩
 ·unfold cN;exact aB (Nat.le_add_right B (B*B)) (Nat.le_mul_of_pos_right _ (Nat.pow_pos (by omega)))
 simp only[Nat.pow_zero,Nat.one_mul];exact aB (It hdef n (af _)) (aE (by omega) hn)
theorem RedI.start (hn1:1<=n) (hn:n<=8) (hs:SymF f n) (hp:yn f n) (hb: ∀a b,(f a b).natAbs<=9) (ht: ∀a b,a<n->b<n->Sz (t a b) 1):RedI 8 bB 41 n f f t 0 0:=
 RedI.start_ Qh hn hs hp (fun k hk=>Pi hb (by omega)) (fun a _=>aB (hb a a) (by decide)) ht
end
end
theorem yY {w w':World} (h:Ext w w'):Keep (fun _=>False) w w':=⟨h.os,h.tape,h.output,h.size,fun k hk _=>h.block k hk⟩
theorem ze {w w':World} (h:Keep (fun _=>False) w w'):Ext w w':=⟨h.os,h.tape,h.output,h.size,fun k hk=>h.block k hk (fun h=>h)⟩
theorem Di {w w':World} {X:Nat->Prop} (h:Ext w w') (hX: ∀b,X b->b<w.heap.size):Inv w (fun _=>False) X (famH 0 []) (fun _ _=>none) w':=by
 have e: ∀a,famH 0 [] a=[]:=fun a=>by unfold famH;split<;>rfl
 refine⟨yY h,fun a r o ho=>?_,fun a r a' r' o o' b c c' ho=>?_,fun a r o b c ho=>?_,fun b hb=>Nat.lt_of_lt_of_le (hX b hb) h.size,fun a r o ho=>?_⟩<;>(rw[e]at ho;simp at ho)
theorem gW {P:Program} {f:FuncId} {args:List TV} {r:TV} (hc:callable P f=true) (h: ∀(X:Nat->Prop) (w:World) (vs:Array Value),(∀b,X b->b<w.heap.size)->vs.size=args.length->
  (∀(j:Nat) t,args[j]?=some t-> ∃v:Value,vs[j]?=some v/\t.rel (fun _ _=>none) (fun _=>[]) X w v)->Calls P f vs w fun e w'=> ∃v,e= .returned v/\(∀ρ H Y,r.rel ρ H Y w' v)/\Ext w w'):CallC P f args ⟨[],r⟩:=
 ⟨hc,fun X w vs hX hvs ha=>(h X w vs hX hvs ha).mono fun e w' ⟨v,h1,h2,h3⟩=>⟨v,h1,fun _ _=>none,Di h3 hX,h2 _ _ _⟩⟩
theorem CallC.calls {P:Program} {f:FuncId} {args:List TV} {r:TV} (h:CallC P f args ⟨[],r⟩) {w:World} {vs:Array Value} (hvs:vs.size=args.length)
  (ha: ∀(j:Nat) t,args[j]?=some t-> ∃v:Value,vs[j]?=some v/\t.rel (fun _ _=>none) (fun _=>[]) (fun _=>False) w v):Calls P f vs w fun e w'=> ∃v,e= .returned v/\(∃ρ H X,r.rel ρ H X w' v)/\Ext w w':=
 (h.2 (fun _=>False) w vs (fun b h=>h.elim) hvs ha).mono fun e w' ⟨v,h1,ρ,h2,h3⟩=>⟨v,h1,⟨_,_,_,h3⟩,ze h2.keep⟩
theorem rR {ρ:Rho} {H:OH} {X:Nat->Prop} {w:World} (v:Int) (b:Bool):(FL v b).rel ρ H X w (.tuple #[.int .i64 v,.bool b]):=by
 refine⟨#[.int .i64 v,.bool b],rfl,rfl,fun j c cs hj=>?_⟩
 match j,hj with
 |0,hj=>
  simp at hj;obtain⟨rfl,rfl⟩:=hj;exact⟨_,rfl,.inr ⟨rfl,_,rfl,cu.raw _ rfl⟩⟩
 |1,hj=>
  simp at hj;obtain⟨rfl,rfl⟩:=hj;exact⟨_,rfl,.inr ⟨rfl,_,rfl,cu.raw _ rfl⟩⟩
 |j+2,hj=>simp at hj
theorem uh {ρ:Rho} {H:OH} {X:Nat->Prop} {w:World} (b:Bool):(TV.raw (.bool b)).rel ρ H X w (.bool b):=cu.raw _ rfl
theorem lG {X:Nat->Prop} {w:World} {u v:Value} (h:cu X w (.raw u) v):v=u:=by cases h;rfl
theorem jL {X:Nat->Prop} {w:World} {l:List Int} {v:Value} (h:cu X w (.sl (ls fI l)) v): ∃A c,v= .slice A l.length c/\l.length<=c/\l.length<=9223372036854775807/\RdI .i64 w A l:=by
 generalize hx:PV.sl (ls fI l)=x at h;cases h with
 |raw v h=>cases hx
 |ptr b off cs f hX hb hc hr=>cases hx
 |nil a c=>
  injection hx with hx
  have hl:l=[]:=by simpa[ls] using hx
  subst hl;exact⟨a,c,rfl,Nat.zero_le _,by simp,RdI.nil _ _ _⟩
 |sl b off es cap xs f hX hb hes hcap hm hc hr=>
  injection hx with hx
  subst hx;rw[ff]at hcap hm;refine⟨some ⟨b,off,none⟩,cap,by rw[ff],hcap,hm,fun hne=>⟨b,off,rfl,fun i x hx=>?_⟩⟩;rw[aA]at hx;obtain⟨z,hz,rfl⟩:=Option.map_eq_some_iff.1 hx;have h1:(ls fI l)[i]?=some (fI z):=by rw[gH,hz];rfl
  have he:es=1:=by rw[<- hes _ (ax h1)];rfl
  subst he;have h2:=hc i _ 0 _ h1 rfl;have h3:=lG (hr i _ 0 _ h1 rfl);rw[h3,Nat.mul_one,Nat.add_zero]at h2;exact h2
theorem nK {X:Nat->Prop} {w:World} {M:List (List Int)} {v:Value} (h:cu X w (.sl (ls (fR fI) M)) v): ∃A c,v= .slice A M.length c/\M.length<=c/\M.length<=9223372036854775807/\rA .i64 w A M:=by
 generalize hx:PV.sl (ls (fR fI) M)=x at h;cases h with
 |raw v h=>cases hx
 |ptr b off cs f hX hb hc hr=>cases hx
 |nil a c=>
  injection hx with hx
  have hl:M=[]:=by simpa[ls] using hx
  subst hl;exact⟨a,c,rfl,Nat.zero_le _,by simp,rA.nil _ _ _⟩
 |sl b off es cap xs f hX hb hes hcap hm hc hr=>
  injection hx with hx
  subst hx;rw[ff]at hcap hm;refine⟨some ⟨b,off,none⟩,cap,by rw[ff],hcap,hm,fun hne=>⟨b,off,rfl,fun i r hi=>?_⟩⟩;have h1:(ls (fR fI) M)[i]?=some (fR fI r):=by rw[gH,hi];rfl
  have he:es=1:=by rw[<- hes _ (ax h1)];rfl
  subst he;have h2:=hc i _ 0 _ h1 rfl;have h3:=jL (hr i _ 0 _ h1 rfl);rw[Nat.mul_one,Nat.add_zero]at h2;exact⟨_,h2,h3⟩
/-! The program's functions. -/
theorem mf {args:List TV} {vs:Array Value} {X:Nat->Prop} {w:World} (h: ∀(j:Nat) t,args[j]?=some t-> ∃v:Value,vs[j]?=some v/\t.rel (fun _ _=>none) (fun _=>[]) X w v) {j:Nat} {x:PV} (hj:args[j]?=some (.one (.p x))): ∃v:Value,vs[j]?=some v/\cu X w x v:=h j _ hj
theorem Io (M:List (List Int)) (x y:List Int):CallC Tryz.prog 20 [bS M,pO x,pO y] ⟨[],EQ M x y⟩:=by
 refine gW (by kernel_rfl) fun X w vs hX hvs ha=>?_
 obtain⟨v0,e0,r0⟩:=mf ha (j:=0) rfl;obtain⟨v1,e1,r1⟩:=mf ha (j:=1) rfl;obtain⟨v2,e2,r2⟩:=mf ha (j:=2) rfl;obtain⟨A,c,rfl,hc,hl,hR⟩:=nK r0;obtain⟨B,d,rfl,hd,hlx,hx⟩:=jL r1;obtain⟨C,d',rfl,hd',hly,hy⟩:=jL r2;obtain rfl:vs= #[.slice A M.length c,.slice B x.length d,.slice C y.length d']:=by
  apply Array.ext_getElem?;intro j
  match j with
  |0=>exact e0
  |1=>exact e1
  |2=>exact e2
  |j+3=>rw[Array.getElem?_eq_none (by simp at hvs;omega)];rfl
 obtain⟨v,b,g1,g2⟩:=tl M x y;refine(vM A B C c d d' M x y w hR hx hy hl hc hlx hly).mono fun e w' ⟨h1,h2⟩=>?_
 rw[g2]at h1;rw[g1];exact⟨_,h1,fun _ _ _=>rR v b,h2⟩
theorem DF (M:List (List Int)) (x:List Int):CallC Tryz.prog 55 [bS M,pO x] ⟨[],EQ M x x⟩:=by
 refine gW (by kernel_rfl) fun X w vs hX hvs ha=>?_
 obtain⟨v0,e0,r0⟩:=mf ha (j:=0) rfl;obtain⟨v1,e1,r1⟩:=mf ha (j:=1) rfl;obtain⟨A,c,rfl,hc,hl,hR⟩:=nK r0;obtain⟨B,d,rfl,hd,hlx,hx⟩:=jL r1;obtain rfl:vs= #[.slice A M.length c,.slice B x.length d]:=by
  apply Array.ext_getElem?;intro j
  match j with
  |0=>exact e0
  |1=>exact e1
  |j+2=>rw[Array.getElem?_eq_none (by simp at hvs;omega)];rfl
 obtain⟨v,b,g1,g2⟩:=tl M x x;refine(Ia A B c d M x w hR hx hl hc hlx).mono fun e w' ⟨h1,h2⟩=>?_
 rw[g2]at h1;rw[g1];exact⟨_,h1,fun _ _ _=>rR v b,h2⟩
def Ai (v:Value) (a:Nat) (g:Nat->Value):Nat->Value:=fun j=>if j=0 then v else if j=1 then .int .i64 (a:Int)else g j
theorem Fe (tx n:Nat) (A:Option Addr) (c:Nat) (l:List Int) (a:Nat) (g:Nat->Value) (w:World) (hn:2<=n) (hl:RdI .i8 w A l) (hb: ∀z∈l,-128<=z/\z<=127) (ll:l.length<=9223372036854775807) (ha:a<=l.length) (hT:w.rowIs tx 84 n (Ai (.slice A l.length c) a g)) (hne:l≠[]-> ∀p,A=some p->p.block≠tx):
  Calls Tryz.prog 89 #[.pointer (some ⟨tx,0,none⟩)] w fun e w'=>e= .returned (.int .i64 (l.getD a 0))/\w'.rowIs tx 84 n (Ai (.slice A l.length c) (f6 l a) g)/\w.grownBy w' (some tx):=by
 have HT:=Lib.hid hT;have HL:=Lib.hid hl;have HB:=Lib.hid hb;have HN:=Lib.hid hne;clear hT hl hb hne;have t0:w.cell? ⟨tx,0,none⟩=some (.slice A l.length c):=HT.out.cell (by omega);have t1:w.cell? ⟨tx,1,none⟩=some (.int .i64 (a:Int)):=HT.out.cell (by omega);have t2:w.frozen? ⟨tx,1,none⟩=false:=HT.out.frozen 1;by_cases hlt:a<l.length
 ·obtain⟨z,hz⟩:=getElem?_of_lt hlt;obtain⟨b,off,rfl,hc⟩:=HL.out.at_ hz;have hbt:b≠tx:=HN.out (by rintro rfl;simp at hlt) _ rfl;have hzb:=HB.out z (ax hz);have hz1:=hzb.1;have hz2:=hzb.2;have HZ:Hid (l.getD a 0=z):=Lib.hid (by rw[List.getD_eq_getElem?_getD,hz];rfl);have HNx:Hid (f6 l a=a+1):=Lib.hid (if_pos hlt);clear hz hzb
  go_enter Tryz.func89,Tryz.ntmps89
  go_wp2_with fail
  go_quiet (fail)
  go_wp2_with fail
  have hrow:=((mK HT.out nq).set 1 (.int .i64 ((a:Int)+1))).congr (g:=Ai (.slice (some ⟨b,off,none⟩) l.length c) (a+1) g) (fun j hj=>by
   match j,hj with
   |0,_=>rfl
   |1,_=>simp[Ai]
   |j+2,_=>simp[Ai])
  have HROW:=Lib.hid hrow;have HG:=Lib.hid (NR (qm ((Ext.refl w).drewN nq) tx) 1 (.int .i64 ((a:Int)+1)));have s0:((w.drewN nq).setCell ⟨tx,1,none⟩ (.int .i64 ((a:Int)+1))).cell? ⟨tx,0,none⟩=some (.slice (some ⟨b,off,none⟩) l.length c):=HROW.out.cell (i:=0) (by omega);have s1:((w.drewN nq).setCell ⟨tx,1,none⟩ (.int .i64 ((a:Int)+1))).cell? ⟨tx,1,none⟩=some (.int .i64 ((a:Int)+1)):=by
   have:=HROW.out.cell (i:=1) (by omega);rw[this];simp[Ai]
  have s2:((w.drewN nq).setCell ⟨tx,1,none⟩ (.int .i64 ((a:Int)+1))).cell? ⟨b,off+a,none⟩=some (.int .i8 z):=Dd HG.out hc hbt;have a1:IntKind.i64.wrap ((a:Int)+1-1)=(a:Int):=by rw[Int.add_sub_cancel];exact IntWalk.i64_in _ (by omega)
  have a2:(a:Int)<(l.length:Int):=by omega
  clear t0 t1 t2 hc hrow;generalize(w.drewN nq).setCell ⟨tx,1,none⟩ (.int .i64 ((a:Int)+1))=w3 at*
  go_quiet (fail)
  go_wp2_with fail
  go_ret
  rw[HZ.out,HNx.out];exact⟨rfl,mK HROW.out _,y4 HG.out (qm ((Ext.refl _).drewN _) tx)⟩
 go_enter Tryz.func89,Tryz.ntmps89
 have HZ:Hid (l.getD a 0=0):=Lib.hid (by rw[List.getD_eq_getElem?_getD,au (by omega)];rfl);have HNx:Hid (f6 l a=a):=Lib.hid (if_neg hlt)
 go_wp2_with fail
 go_quiet (fail)
 go_wp2_with fail
 go_ret
 rw[HZ.out,HNx.out];exact⟨rfl,mK HT.out _,qm ((Ext.refl _).drewN _) tx⟩
def f8 (z:Int):List PV:=[.raw (.int .i8 z)]
abbrev FK (L:List Int) (a:Nat):List PV:=[.sl (ls f8 L),.raw (.int .i64 (a:Int))]
abbrev dq (b:Nat):TV:= .raw (.pointer (some ⟨b,0,none⟩))
def I8 (L:List Int):Prop:= ∀z∈L,-128<=z/\z<=127
theorem I8.getD {L:List Int} (h:I8 L) (a:Nat): -128<=L.getD a 0/\L.getD a 0<=127:=by
 rw[List.getD_eq_getElem?_getD];cases hx:L[a]? with
 |none=>simp
 |some z=>exact h z (ax hx)
theorem LA {X:Nat->Prop} {w:World} {l:List Int} {v:Value} (h:cu X w (.sl (ls f8 l)) v): ∃A c,v= .slice A l.length c/\l.length<=9223372036854775807/\RdI .i8 w A l/\(l≠[]-> ∀p,A=some p-> ¬X p.block):=by
 generalize hx:PV.sl (ls f8 l)=x at h;cases h with
 |raw v h=>cases hx
 |ptr b off cs f hX hb hc hr=>cases hx
 |nil a c=>
  injection hx with hx
  have hl:l=[]:=by simpa[ls] using hx
  subst hl;exact⟨a,c,rfl,by simp,RdI.nil _ _ _,fun h=>absurd rfl h⟩
 |sl b off es cap xs f hX hb hes hcap hm hc hr=>
  injection hx with hx
  subst hx;rw[ff]at hcap hm;refine⟨some ⟨b,off,none⟩,cap,by rw[ff],hm,fun hne=>⟨b,off,rfl,fun i x hx=>?_⟩,fun _ p hp=>by injection hp with hp;subst hp;exact hX⟩;rw[aA]at hx;obtain⟨z,hz,rfl⟩:=Option.map_eq_some_iff.1 hx;have h1:(ls f8 l)[i]?=some (f8 z):=by rw[gH,hz];rfl
  have he:es=1:=by rw[<- hes _ (ax h1)];rfl
  subst he;have h2:=hc i _ 0 _ h1 rfl;have h3:=lG (hr i _ 0 _ h1 rfl);rw[h3,Nat.mul_one,Nat.add_zero]at h2;exact h2
theorem Ge (b:Nat) (L:List Int) (a:Nat) (hL:I8 L) (ha:a<=L.length):CallT Tryz.prog b 84 89 [dq b] (FK L a) ⟨[],.raw (.int .i64 (L.getD a 0))⟩ (FK L (f6 L a)):=by
 refine⟨by kernel_rfl,fun X w vs hX hXb hbox hvs hargs=>?_⟩;obtain⟨cells,c,h1,h2,h3,h4,h5,h6⟩:=hbox;obtain⟨v0,e0,r0⟩:=hargs 0 _ rfl;have hv0:v0= .pointer (some ⟨b,0,none⟩):=lG r0;subst hv0;obtain rfl:vs= #[.pointer (some ⟨b,0,none⟩)]:=by
  apply Array.ext_getElem?;intro j
  match j with
  |0=>exact e0
  |j+1=>rw[Array.getElem?_eq_none (by simp at hvs;omega)];rfl
 obtain⟨v,c0,_,r1⟩:=h6 0 _ rfl;obtain⟨u,c1,_,r2⟩:=h6 1 _ rfl;have hu:=lG r2;subst hu;obtain⟨A,cap,rfl,hl,hrd,hb⟩:=LA r1;have hsz:cells.size=c*2:=h2;have hrow:w.rowIs b 84 (c*2) (Ai (.slice A L.length cap) a fun j=>(cells[j]?).getD undef):=by
  refine⟨cells,h1,hsz,fun i hi=>?_⟩
  match i with
  |0=>exact c0
  |1=>exact c1
  |i+2=>simp[Ai,hsz,hi]
 have hblk:L≠[]-> ∀p,A=some p->p.block≠b:=fun hne p hp he=>hb hne p hp (by rw[he];exact hXb)
 refine(Fe b (c*2) A cap L a _ w (by omega) hrd hL hl ha hrow hblk).mono fun e w' ⟨q1,⟨cells',q2,q3,q4⟩,q5⟩=>?_
 have hbut: ∀k,k<w.heap.size->k≠b->w'.heap[k]?=w.heap[k]?:=fun k hk hne=>q5.block k hk (by simp;exact hne)
 have hXo: ∀j,Xo X (fun _ _=>none) (famH 0 []) j->X j:=fun j hj=>by
  rcases hj with hj|⟨_,_,_,_,_,g⟩
  ·exact hj
  cases g
 refine⟨_,q1,fun _ _=>none,?_,cu.raw _ rfl,cells',c,q2,q3,h3,h4,h5,fun j x hx=>?_⟩
 ·have e: ∀a,famH 0 [] a=[]:=fun a=>by unfold famH;split<;>rfl
  refine⟨⟨q5.os,q5.tape,q5.output,q5.size,fun k hk hn=>hbut k hk hn⟩,fun a r o ho=>?_,fun a r a' r' o o' b c c' ho=>?_,fun a r o b c ho=>?_,fun j hj=>Nat.lt_of_lt_of_le (hX j hj) q5.size,fun a r o ho=>?_⟩<;>(rw[e]at ho;simp at ho)
 match j,hx with
 |0,hx=>
  have hx:x= .sl (ls f8 L):=by simpa using hx.symm
  subst hx;refine⟨.slice A L.length cap,q4 0 (by omega),rfl,r1.later (fun j _ hj=>hXo j hj) q5.size fun p u hp hn hu=>?_⟩;rw[nd (hbut p.block hp (fun he=>hn (by rw[he];exact hXb)))];exact hu
 |1,hx=>
  have hx:x= .raw (.int .i64 (f6 L a:Nat)):=by simpa using hx.symm
  subst hx;exact⟨_,q4 1 (by omega),rfl,cu.raw _ rfl⟩
 |j+2,hx=>simp at hx
def lX (L:List Int) (a n:Nat):Nat:=((L.getD a 0)%256).toNat%n
theorem kZ {n:Nat} (L:List Int) (a:Nat) (h:0<n):lX L a n<n:=Nat.mod_lt _ h
theorem En (L:List Int) (a n:Nat):Int.tmod (L.getD a 0%256) (n:Int)=(lX L a n:Int):=by
 have h:L.getD a 0%256=((L.getD a 0%256).toNat:Int):=by omega
 unfold lX;rw[Int.ofNat_tmod,<- h]
theorem ON (x:Int):IntKind.u8.wrap x=x%256:=by rw[IntKind.wrap_u8]
theorem nC {L:List Int} {a:Nat} (h:a<=L.length):f6 L a<=L.length:=by unfold f6;split<;>omega
theorem wJ (b:Nat) (L:List Int) (a n:Nat) (hL:I8 L) (ha:a<=L.length) (hn1:0<n) (hn:n<=100):CallT Tryz.prog b 84 48 [dq b,.raw (.int .i64 (n:Int))] (FK L a) ⟨[],.raw (.int .i64 (lX L a n:Int))⟩ (FK L (f6 L a)):=by
 have c1:=Ge b L a hL ha;have e1:=En L a n;have e2:=ON (L.getD a 0);refine mj Tryz.func48 rfl (by kernel_rfl) ?_;rw[Tryz.ntmps48];refine aX fun _ K=>?_;simp only[kd,dq,aa,ag];apply K
 refine qc 1 c1 [] [] (by kernel_rfl) (by rfl) (by rfl) fun _ K=>?_;simp(disch:=omega) only[kd,List.map,dq,aa,e2,aT,e1];apply K
 (refine m9 ⟨.inr rfl,rfl,aL rfl ?_ rfl⟩;simp(disch:=omega) only[kd,Tryz.results48])
section
def jz (r:List Int):OObj:=⟨2,1,lc fI r⟩
abbrev kI (d n c i:Nat) (f:FF):List OObj:=⟨34,1,gk d (ag i c)++ag (n-i) oG⟩::(bx i c f).map jz
abbrev dc (d n c:Nat) (f:FF):List OObj:=⟨34,1,gk d (ag n c)⟩::(bx n c f).map jz
theorem ou (d n c:Nat) (f:FF):kI d n c n f=dc d n c f:=by simp[kI,dc]
theorem jj {i n:Nat} (d c:Nat) (h:i<=n):(gk d (ag i c)++ag (n-i) oG).length=n:=by simp[ch];omega
theorem qp {i k n:Nat} (d c:Nat) (h:k<i):(gk d (ag i c)++ag (n-i) oG)[k]?=some [.sl d (k+1) 0 c]:=by
 rw[List.getElem?_append_left (by simp[ch];exact h),bZ d c h]
theorem qr {i n:Nat} (d c:Nat) (h:i<n):(gk d (ag i c)++ag (n-i) oG)[i]?=some oG:=by
 rw[List.getElem?_append_right (by simp[ch]),ch,az,Nat.sub_self,List.getElem?_replicate,if_pos (by omega)]
theorem cH {n i:Nat} (c:Nat) (f:FF) (h:i<n):((bx n c f).map jz)[i]?=some ⟨2,1,lc fI (bT c (f i))⟩:=by
 rw[aA,bD _ _ h];rfl
theorem eP {n i j:Nat} (c:Nat) (f:FF) (v:Int):((bx n c f).map jz).set i ⟨2,1,(lc fI (bT c (f i))).set j [.p (.raw (.int .i64 v))]⟩=(bx n c (upd f i j v)).map jz:=by
 have e:(⟨2,1,(lc fI (bT c (f i))).set j [.p (.raw (.int .i64 v))]⟩:OObj)=jz (bT c fun b=>if b=j then v else f i b):=by
  rw[<- pJ,jz,<- xu];rfl
 rw[e,<- List.map_set,Dv];rfl
theorem cn {n c:Nat} {f g:FF} (h: ∀i j,i<n->j<c->f i j=g i j):(bx n c f).map jz=(bx n c g).map jz:=by rw[gX h]
theorem nk {i n c:Nat} (d:Nat) (f:FF) (hi:i<n) (h0: ∀j,j<c->f i j=0):
  (⟨34,1,(gk d (ag i c)++ag (n-i) oG).set i [.sl d (i+1) 0 c]⟩::((bx i c f).map jz++[⟨2,1,ag c [.raw (.int .i64 0)]⟩]):List OObj)=kI d n c (i+1) f:=by
 have e1:(gk d (ag i c)++ag (n-i) oG).set i [.sl d (i+1) 0 c]=gk d (ag (i+1) c)++ag (n-(i+1)) oG:=by
  rw[List.set_append_right _ _ (by simp[ch]),ch,az,Nat.sub_self,List.replicate_succ' (n:=i),mS,az,List.append_assoc]
  congr 1
  rw[show n-i=n-(i+1)+1 by omega,List.replicate_succ];rfl
 have e2:(⟨2,1,ag c [.raw (.int .i64 0)]⟩:OObj)=jz (bT c (f i)):=by
  rw[jz]
  congr 1
  apply List.ext_getElem?;intro j;rw[List.getElem?_replicate,BA];by_cases hj:j<c
  ·rw[if_pos hj,aY _ hj,h0 j hj];rfl
  rw[if_neg hj,au (by rw[bE];omega)];rfl
 rw[e1,e2,kI,tD,List.map_append];rfl
theorem cE (d e n c:Nat) (f:FF):(dc d n c f).map (renO e)=dc e n c f:=by
 simp only[dc,List.map_cons,List.map_map]
 congr 1
 ·simp[renO,DP]
 exact List.map_congr_left fun r _=>by simp[renO,jz,xt]
theorem dm {H:OH} {d n c:Nat} {f:FF} (h:H d=dc d n c f):uU H d:=fun r o ho e he x hx=>by
 rw[h]at ho;cases r with
 |succ r=>
  rw[List.getElem?_cons_succ,aA]at ho;obtain⟨l,hl,rfl⟩:=Option.map_eq_some_iff.1 ho;exact .inl (d6 _ _ l e he x hx)
 |zero=>
  simp at ho;subst ho;simp only at he;obtain⟨k,hk⟩:=List.mem_iff_getElem?.1 he;have hkn:k<n:=by
   have:=(List.getElem?_eq_some_iff.1 hk).1;rwa[ch,az]at this
  rw[bZ d c hkn]at hk;injection hk with hk
  subst hk;simp at hx;subst hx;refine .inr ⟨k+1,0,c,jz (bT c (f k)),rfl,?_,d6 _ _ _⟩;rw[h,List.getElem?_cons_succ,aA,bD _ _ hkn];rfl
theorem l5 {H:OH} {d n c:Nat} {f:FF} (h:H d=dc d n c f):gO H d (.one (.sl d 0 0 n))=bS (bx n c f):=by
 have e:((gk d (ag n c)).map (List.map (jC H d)))=ls (fR fI) (bx n c f):=by
  apply List.ext_getElem?;intro i;rw[aA,gH];by_cases hi:i<n
  ·rw[bZ d c hi,bD _ _ hi];simp only[Option.map_some,List.map_cons,List.map_nil,jC,h,List.getElem?_cons_succ,cH _ _ hi,fR,fP,xq,rK];rw[List.drop_zero,List.take_of_length_le (by rw[bE];omega)]
  rw[au (by rw[ch,az];omega),au (by rw[bi];omega)];rfl
 simp only[gO,fj,if_true,h,List.getElem?_cons_zero];rw[List.drop_zero,List.take_of_length_le (by rw[ch,az];omega),e]
abbrev th (k:Nat) (b:Bool):TV:= .tup [(false,[.sl 0 0 0 k]),(false,[.p (.raw (.bool b))])]
theorem IF {fn:Func} {d k c:Nat} {F:FF} {b:Bool} {s:AS} (hd:s.H d=dc d k c F)
  (hres:rt Tryz.prog s fn.results.toList=some (.tup [(false,[.sl d 0 0 k]),(false,[.p (.raw (.bool b))])])) (h5:d<=4999):
  ∃s',cj s s'/\nP Tryz.prog fn ⟨dc 0 k c F,th k b⟩ s':=
 ⟨s,cj.refl s,_,d,hres,uz (by simp[iM,dK]) h5,by rw[hd,cE],rfl⟩
section
variable {P:Program} {fu:FuncId} {args:List TV} {n c:Nat} {g:FF}
theorem CallC.fzI (h:CallC P fu args ⟨dc 0 n c g,.one (.sl 0 0 0 n)⟩):CallC P fu args ⟨[],bS (bx n c g)⟩:=
 h.weak ((bX 0 (dm (d:=0) (n:=n) (c:=c) (f:=g) rfl)).trans (aG (tm:=[bS (bx n c g)]) (l:=[(0,[])]) ⟨rfl,trivial⟩ (by
  simp[wk];exact(l5 (H:=famH 0 (dc 0 n c g)) (d:=0) (n:=n) (c:=c) (f:=g) rfl).symm)))
end
def ke (L:List Int) (a:Nat):Nat->Nat
 |0=>a
 |i+1=>f6 L (ke L a i)
theorem qf {L:List Int} {a:Nat} (h:a<=L.length): ∀i,ke L a i<=L.length
 |0=>h
 |i+1=>nC (qf h i)
def fY (L:List Int) (a most:Nat):Nat->Nat->Int:=fun i j=>if i=j then 1+(lX L (ke L a i) most:Int)else 0
def Ey (L:List Int) (a most i:Nat):Nat->Nat->Int:=fun x y=>if x<i then fY L a most x y else 0
theorem GU (L:List Int) (a most i x y:Nat):upd (Ey L a most i) i i (1+(lX L (ke L a i) most:Int)) x y=Ey L a most (i+1) x y:=by
 unfold upd Ey fY;by_cases h1:x=i
 ·subst h1;by_cases h2:y=x
  ·subst h2;simp
  simp[h2,Ne.symm h2]
 have:x<i+1↔x<i:=by omega
 simp[h1,this]
theorem lg (b:Nat) (L:List Int) (a n most:Nat) (hL:I8 L) (ha:a<=L.length) (hn:n<=8) (hm1:0<most) (hmm:most<=100):
  CallT Tryz.prog b 84 49 [dq b,.raw (.int .i64 (n:Int)),.raw (.int .i64 (most:Int))] (FK L a) ⟨dc 0 n n (fY L a most),.one (.sl 0 0 0 n)⟩ (FK L (ke L a n)):=by
 refine mj Tryz.func49 rfl (by kernel_rfl) ?_;rw[Tryz.ntmps49];refine aX fun _ K=>?_;simp only[kd,dq,aa,ag];apply K
 refine aX fun _ K=>?_;simp(disch:=omega) only[kd,aa];apply K
 refine cL (aX fun _ K=>?_);simp only[kd,aa];apply K;refine mb (G:=kK n) (fun g=>⟨(dq b::rN n::rN most::j4 (.one (.sl 10 0 0 n)::j4 (.raw (.int .i64 (n:Int))::rN g.i::j16 (jk::jk::jk::[])))),Hm [(10,kI 10 n n g.i (Ey L a most g.i))]⟩) (fun g=>FK L (ke L a g.i)) (fun g=>n-g.i) ⟨0,by omega⟩ ?_ rfl ?_
 ·refine aG ⟨?_,trivial⟩ ?_
  ·show[_]=_;simp[gk,bx]
  simp[wk]
 rintro⟨i,hi⟩;simp only;by_cases hm:i<n
 ·have c1:=wJ b L (ke L a i) most hL (qf ha i) hm1 hmm;have hbl:=kZ (n:=most) L (ke L a i) hm1;have k1:=qr (i:=i) (n:=n) 10 n hm;have k2:=jj (i:=i) (n:=n) 10 n hi;have k3:=bi i n (Ey L a most i);have k4:=nk (i:=i) (n:=n) (c:=n) 10 (Ey L a most i) hm (fun j hj=>by unfold Ey;rw[if_neg (by omega)]);have k5:=qp (i:=i+1) (k:=i) (n:=n) 10 n (by omega);have k6:=jj (i:=i+1) (n:=n) 10 n (by omega);have k7:=cH (n:=i+1) n (Ey L a most i) (i:=i) (by omega);have k8:=aY (Ey L a most i i) hm;refine aX fun _ K=>?_;simp(disch:=omega) only[kd,dq];apply K
  refine wO rfl ?_;refine cL (dE ?_);refine aX fun _ K=>?_;simp only[kd];apply K
  refine aX fun _ K=>?_;simp(disch:=omega) only[kd,aa,Nat.reduceEqDiff,k1,Nat.reduceLeDiff,az,List.all_replicate,k3,k4,Nat.reduceBEq];apply K
  refine eA.weak (aG (tm:=(dq b::rN n::rN most::j4 (.one (.sl 10 0 0 n)::rN i::jk::jk::jk::rN n::rN i::j16 (jk::jk::jk::[])))) (l:=[(10,kI 10 n n (i+1) (Ey L a most i))]) ⟨?_,trivial⟩ (by simp[wk])) ?_
  ·first|exact k4|rfl
  refine kV bj 7 c1 [] [] (by kernel_rfl) (by kernel_rfl) (by rfl) (by rfl) fun _ K=>?_;simp(disch:=omega) only[kd,dq,aa,k5,aT,k7,k8,eP];apply K
  show eA _ _ _ _ _ _ _;refine eZ fun _ K=>?_;simp(disch:=omega) only[kd,aT];apply K
  refine⟨⟨i+1,by omega⟩,by simp only;omega,aG ⟨?_,trivial⟩ ?_,rfl⟩
  ·show _::_=_::_;rw[cn fun x y _ _=>GU L a most i x y]
  simp[wk]
 have hin:i=n:=by omega
 subst hin;refine aX fun _ K=>?_;simp(disch:=omega) only[kd,dq];apply K
 refine wN rfl ?_;show eA _ _ _ _ _ _ _;have e:kI 10 i i i (Ey L a most i)=dc 10 i i (fY L a most):=by
  rw[ou];show _::_=_::_;rw[cn fun x y hx _=>show Ey L a most i x y=fY L a most x y by unfold Ey;rw[if_pos hx]]
 rw[e];refine aX fun _ K=>?_;simp only[kd];apply K
 refine m9 ⟨.inr rfl,rfl,_,cj.refl _,?_⟩;refine⟨.one (.sl 10 0 0 i),10,?_,rfl,?_,rfl⟩
 ·simp(disch:=omega) only[kd,Tryz.results49]
 exact(cE 10 0 _ _ _).symm
end
theorem LZ (m:Nat):swp (m+1) m idF=F5 m:=by
 funext a;unfold swp F5 nM;by_cases h1:a=m+1
 ·subst h1;simp
 by_cases h2:a=m
 ·subst h2;simp
 simp[h1,h2]
def OV (n:Nat) (f:FF):Option Ch->TV
 |none=> .tup [(false,[.p (.raw (.slice none 0 0))]),(false,[.p (.raw (.bool false))])]
 |some c=> .tup [(false,[.p (.sl (ls (fR fZ) (bx n n (MG f c))))]),(false,[.p (.raw (.bool true))])]
structure QN (n:Nat) (f:FF) where
 i:Nat
 hi:i<=n
 h:scanF f n=scanI f (n-i) i
structure QO (i:Nat) (f:FF) where
 k:Nat
 hk:k<=i
 h:scanJ f i i=scanJ f i k
theorem Ox (n:Nat) (f:FF) (hn1:1<=n) (hn:n<=8) (hp: ∀k,k<n->0<dk f (k+1)) (hf: ∀i j,i<n->j<n->Sz (f i j) 1024):
  CallC Tryz.prog 42 [bJ (bx n n f)] ⟨[],OV n f (scanF f n)⟩:=by
 have hL:=vg n f hn1 (by omega) hf;have hI:=se n hn1 (by omega);have hml:=bi n n f;refine aJ Tryz.func42 rfl (by kernel_rfl) ?_;rw[Tryz.ntmps42];refine aF fun _ K=>?_;simp only[kd,bJ,ag];apply K
 refine aI [⟨1,_,_,_,hL⟩] [] fun _ K=>?_;simp only[kd,bJ,PQ,aa];apply K
 refine aI [⟨2,_,_,_,hI⟩] [] fun _ K=>?_;simp only[kd,aa,hml];apply K
 refine aH (aF fun _ K=>?_);simp only[kd,aa,hml];apply K;refine aZ (G:=QN n f) (fun g=>⟨(bJ (bx n n f)::jk::jk::jk::oR (Au n f)::jk::.one (.sl 18 0 0 n)::j4 (j4 (j4 (jk::jk::jk::rN n::rN g.i::j16 (j16 (j16 (j4 (j4 (jk::jk::jk::[]))))))))),Hm [(18,iv 18 n n idF)]⟩) (fun g=>n-g.i) ⟨0,by omega,rfl⟩ ?_ ?_
 ·refine aG ⟨?_,trivial⟩ ?_
  ·exact fQ 0 18 n n _
  simp[wk]
 rintro⟨i,hi,hsc⟩;simp only;by_cases hm:i<n
 ·have hsc2:scanI f (n-i) i=match scanJ f i i with
   |some j=>some (.add i j)
   |none=>if 0<i/\ ¬l7 f i then some (.swp (i-1))else scanI f (n-(i+1)) (i+1):=by
   rw[show n-i=n-(i+1)+1 by omega];rfl
  refine aF fun _ K=>?_;simp(disch:=omega) only[kd,bJ,oR];apply K
  refine bM rfl ?_;refine aH (aM ?_);refine aF fun _ K=>?_;simp only[kd];apply K
  refine aH (aF fun _ K=>?_);simp(disch:=omega) only[kd,aa,aT];apply K;refine aZ (G:=QO i f) (fun g=>⟨(bJ (bx n n f)::jk::jk::jk::oR (Au n f)::jk::.one (.sl 18 0 0 n)::jk::rN i::.raw (.int .i64 ((g.k:Int)-1))::j4 (j4 (j4 (.raw (.int .i64 (n:Int))::rN i::j16 (j16 (j16 (j4 (j4 (jk::jk::jk::[]))))))))),Hm [(18,iv 18 n n idF)]⟩) (fun g=>g.k) ⟨i,by omega,rfl⟩ ?_ ?_
  ·refine aG ⟨rfl,trivial⟩ ?_;simp[wk]
  rintro⟨k,hk,hsj⟩;simp only;cases k with
  |zero=>
   refine aH (aF fun _ K=>?_);simp(disch:=omega) only[kd,bJ,oR];apply K;refine aU rfl (bK ?_);show bu _ _ _ _;have hsj0:scanJ f i i=none:=hsj;rw[hsj0]at hsc2;by_cases h0:0<i
   ·have c1:=Gb n f i (by omega) hm h0 hf;by_cases hs:l7 f i
    ·rw[decide_eq_true (show 3*(dd f i*dd f i)<=4*(dd f (i-1)*dd f (i+1)+lam f i (i-1)*lam f i (i-1))from hs)]at c1;have hnx:scanF f n=scanI f (n-(i+1)) (i+1):=by rw[hsc,hsc2];exact if_neg (by simp[hs])
     refine aI [⟨6,_,_,_,c1⟩] [] fun _ K=>?_;simp(disch:=omega) only[kd,bJ,oR,aa];apply K
     refine aU rfl (aO ?_);show bu _ _ _ _;refine aN fun _ K=>?_;simp(disch:=omega) only[kd,aT];apply K
     refine⟨⟨i+1,by omega,hnx⟩,by simp only;omega,aG ⟨rfl,trivial⟩ ?_⟩;simp[wk]
    rw[decide_eq_false (show ¬3*(dd f i*dd f i)<=4*(dd f (i-1)*dd f (i+1)+lam f i (i-1)*lam f i (i-1))from hs)]at c1;have hnx:scanF f n=some (.swp (i-1)):=by rw[hsc,hsc2];exact if_pos ⟨h0,hs⟩
    rw[hnx];have x0:((i:Int)-1).toNat=i-1:=by omega
    have g1:=bZ (n:=n) (i:=i) 18 n hm;have g2:=bZ (n:=n) (i:=i-1) 18 n (by omega);have g4:((gk 18 (ag n n)).set i [.sl 18 (i-1+1) 0 n])[i-1]?=some [.sl 18 (i-1+1) 0 n]:=by
     rw[List.getElem?_set_ne (by omega),g2]
    refine aI [⟨6,_,_,_,c1⟩] [] fun _ K=>?_;simp(disch:=omega) only[kd,bJ,oR,aa];apply K
    refine bf rfl ?_;refine dF bj (by kernel_rfl) fun _ K=>?_;simp(disch:=omega) only[kd,aa,aT,x0,g2,g1,g4,Nat.reduceLeDiff,reduceCtorEq];apply K
    refine bu.weak ((rD 18 (i+1) (i-1+1) (iv 18 n n (swp i (i-1) idF)) (Dy idF hm (by omega) (by omega))).trans (aG (tm:=(j4 (jk::jk::.one (.sl 18 0 0 n)::j16 (j16 (j16 (j16 (j4 (j4 (j4 ([])))))))))) (l:=[(18,iv 18 n n (swp i (i-1) idF))]) ⟨rfl,trivial⟩ (by simp[wk,FI,jA,ot,sw]))) ?_;rw[show swp i (i-1) idF=F5 (i-1) by rw[<- LZ,show i-1+1=i by omega]];refine bu.weak ((bX 18 (jF rfl)).trans (aG (tm:=(j4 (jk::jk::bJ (bx n n (F5 (i-1)))::j16 (j16 (j16 (j16 (j4 (j4 (j4 ([])))))))))) (l:=[]) trivial (by simp[wk];exact(MK (H:=Hm [(18,iv 18 n n (F5 (i-1)))]) (d:=18) (n:=n) (c:=n) (f:=F5 (i-1)) rfl).symm))) ?_;refine aF fun _ K=>?_;simp only[kd,aa,bJ];apply K
    (refine aK ⟨.inr rfl,aL rfl ?_ rfl⟩;simp(disch:=omega) only[kd,Tryz.results42,OV,MG])
   have hi0:i=0:=by omega
   subst hi0;have hnx:scanF f n=scanI f (n-(0+1)) (0+1):=by rw[hsc,hsc2];exact if_neg (by simp)
   refine aF fun _ K=>?_;simp(disch:=omega) only[kd,aa];apply K
   refine aU rfl (aO ?_);show bu _ _ _ _;refine aN fun _ K=>?_;simp(disch:=omega) only[kd,aT];apply K
   refine⟨⟨1,by omega,hnx⟩,by simp only;omega,aG ⟨rfl,trivial⟩ ?_⟩;simp[wk]
  |succ j=>
   have x1:((j+1:Nat):Int)-1=(j:Int):=by omega
   rw[x1];have c1:=Kj n f i j (by omega) hm (by omega) hf;by_cases hs:jy f i j
   ·rw[decide_eq_true (show 2*((lam f i j).natAbs:Int)<=dd f (j+1)from hs)]at c1;have hnx:scanJ f i i=scanJ f i j:=by rw[hsj];exact if_pos hs
    refine aH (aF fun _ K=>?_);simp(disch:=omega) only[kd,bJ,oR];apply K;refine bf rfl (aO ?_);refine aH (aM ?_);refine aI [⟨4,_,_,_,c1⟩] [] fun _ K=>?_;simp only[kd,bJ,oR,aa];apply K
    refine aU rfl (aO ?_);show bu _ _ _ _;refine aN fun _ K=>?_;simp(disch:=omega) only[kd,aa,aT];apply K
    refine⟨⟨j,by omega,hnx⟩,by simp only;omega,aG ⟨rfl,trivial⟩ ?_⟩;simp[wk]
   rw[decide_eq_false (show ¬2*((lam f i j).natAbs:Int)<=dd f (j+1)from hs)]at c1;have hnx:scanJ f i i=some j:=by rw[hsj];exact if_neg hs
   have hnx2:scanF f n=some (.add i j):=by rw[hsc,hsc2,hnx]
   rw[hnx2,show OV n f (some (.add i j))= .tup [(false,[.p (.sl (ls (fR fZ) (bx n n (upd idF j i (cF f i j)))))]),(false,[.p (.raw (.bool true))])]from rfl];have hdp:0<dd f (j+1):=by rw[jE hp (by omega)];exact hp j (by omega)
   have sl:=Bz (n:=n) (i:=i) (j:=j) (by omega) hm (by omega) hf;have sd:=yR (n:=n) (k:=j+1) (by omega) (by omega) hf;have d1:=sf n f i j (by omega) hm (by omega) hf;have d2:=pk n f (j+1) (by omega) (by omega);rw[show((j+1:Nat):Int)=(j:Int)+1 by omega]at d2;have d3:=AD (lam f i j) (dd f (j+1)) hdp (sl.mono (by omega)) (sd.mono (by omega));have hnd:=oD (n:=lam f i j) hdp;have d4:=D8 (nN (lam f i j) (dd f (j+1))) (nD (lam f i j) (dd f (j+1))) hnd ((vX sl).mono (by omega)) ((vW sd).mono (by omega));rw[Qp hdp]at d4;have sq:Sz (qF (lam f i j) (dd f (j+1))) 67174401:=by
    have h1:=BY (l:=lam f i j) hdp;have h2:Sz ((lam f i j).natAbs+1:Int) (67174400+1):=Sz.add (sl.le (by omega)) (oN (by omega));exact h2.le (by omega)
   have d5:=H8 (qF (lam f i j) (dd f (j+1))) (sq.mono (by omega));rw[show -(qF (lam f i j) (dd f (j+1)))=cF f i j from rfl]at d5;have g1:=bZ (n:=n) (i:=j) 18 n (by omega);have g2:=fV n idF (show j<n by omega);have g3:=aY (idF j) hm;generalize cF f i j=cc at*
   generalize qF (lam f i j) (dd f (j+1))=qq at*
   generalize nN (lam f i j) (dd f (j+1))=n1 at*
   generalize nD (lam f i j) (dd f (j+1))=n2 at*
   refine aH (aF fun _ K=>?_);simp(disch:=omega) only[kd,bJ,oR];apply K;refine bf rfl (aO ?_);refine aH (aM ?_);refine aI [⟨4,_,_,_,c1⟩] [] fun _ K=>?_;simp only[kd,bJ,oR,aa];apply K
   refine bf rfl ?_;refine bz bj [⟨8,_,_,_,d1⟩,⟨12,_,_,_,d2⟩,⟨13,_,_,_,d3⟩,⟨14,_,_,_,d4⟩,⟨15,_,_,_,d5⟩] [] (by kernel_rfl) fun _ K=>?_;simp(disch:=omega) only[kd,bJ,tZ,oR,tR,aa,g1,aT,Nat.reduceBEq,g2,fZ,g3,lE];apply K
   refine bu.weak ((aG (tm:=(j4 (jk::jk::.one (.sl 18 0 0 n)::j16 (j16 (j16 (j16 (j4 (j4 (j4 ([])))))))))) (l:=[(18,iv 18 n n (upd idF j i cc))]) ⟨rfl,trivial⟩ (by simp[wk])).trans ((bX 18 (jF rfl)).trans (aG (tm:=(j4 (jk::jk::bJ (bx n n (upd idF j i cc))::j16 (j16 (j16 (j16 (j4 (j4 (j4 ([])))))))))) (l:=[]) trivial (by
    simp[wk];exact(MK (H:=Hm [(18,iv 18 n n (upd idF j i cc))]) (d:=18) (n:=n) (c:=n) (f:=upd idF j i cc) rfl).symm)))) ?_
   refine aF fun _ K=>?_;simp only[kd,aa,bJ];apply K
   (refine aK ⟨.inr rfl,aL rfl ?_ rfl⟩;simp(disch:=omega) only[kd,Tryz.results42])
 have hin:i=n:=by omega
 subst hin;have hnx:scanF f i=none:=by rw[hsc,Nat.sub_self];rfl
 rw[hnx];refine aF fun _ K=>?_;simp(disch:=omega) only[kd,bJ,oR];apply K
 refine bV rfl ?_;show bu _ _ _ _;refine aF fun _ K=>?_;simp only[kd];apply K
 (refine aK ⟨.inr rfl,aL rfl ?_ rfl⟩;simp(disch:=omega) only[kd,Tryz.results42,OV])
end Go.Proofs.YtiollbhgpiiodaaGreatDoor
