/-
  Part 14 of a proof (walks and plain facts).
-/
import Derived.Test.YtalmoejhjceflaaGreatP12
import Derived.Lib.SmallJoins
set_option linter.all false
set_option maxRecDepth 100000
set_option maxHeartbeats 64000000
open Nat renaming le_refl → ae
open List renaming replicate → af
open List renaming getElem?_eq_none → au
open List renaming getElem?_map → az
open Nat renaming le_trans → aA
open Nat renaming mul_le_mul_left → aB
open Nat renaming pow_le_pow_right → aD
namespace Go.Proofs.YtalmoejhjceflaaGreat
open Go.RowKit
def cg (F:Nat->Int):Nat->Int
 |0=>0
 |k+1=>cg F k+F k
theorem aT {F G:Nat->Int}: ∀k,(∀p,p<k->F p=G p)->cg F k=cg G k
 |0,_=>rfl
 |k+1,h=>by rw[cg,cg,aT k (fun p hp=>h p (by omega)),h k (by omega)]
theorem jA (F G:Nat->Int): ∀k,cg (fun p=>F p+G p) k=cg F k+cg G k
 |0=>rfl
 |k+1=>by rw[cg,cg,cg,jA F G k];omega
theorem dx: ∀k,cg (fun _=>0) k=0
 |0=>rfl
 |k+1=>by rw[cg,dx k];rfl
theorem iE {F:Nat->Int} {a:Nat}: ∀{k},a<k->(∀p,p<k->p≠a->F p=0)->cg F k=F a
 |k+1,h,h0=>by
  by_cases e:a=k
  ·subst e;rw[cg,aT a (G:=fun _=>0) (fun p hp=>h0 p (by omega) (by omega)),dx];omega
  rw[cg,iE (show a<k by omega) (fun p hp hn=>h0 p (by omega) hn),h0 k (by omega) (by omega)];omega
theorem n5 {k:Nat} (x y:Nat->Int): ∀l,l<=k->fz (be k x) (be k y) l=cg (fun p=>x p*y p) l
 |0,_=>rfl
 |l+1,h=>by
  show fz (be k x) (be k y) l+(be k x).getD l 0*(be k y).getD l 0=_;rw[n5 x y l (by omega),List.getD_eq_getElem?_getD,List.getD_eq_getElem?_getD,aZ _ (by omega),aZ _ (by omega)];rfl
theorem oM (k:Nat) (f g:FF) (i j:Nat):zJ k f g i j=cg (fun p=>f i p*g p j) k:=n5 _ _ k (ae _)
def Ro (i j:Nat) (c:Int):Nat->Nat->Int:=upd idF j i c
def SH (m:Nat):Nat->Nat->Int:=fun a=>idF (mT m a)
theorem En (m a:Nat):mT m (mT m a)=a:=by
 unfold mT;by_cases h1:a=m
 ·subst h1;simp
 by_cases h2:a=m+1
 ·subst h2;simp
 simp[h1,h2]
theorem OW {i j:Nat} {c:Int} (hji:j≠i) (p b:Nat):Ro i j c p b=idF p b+(if p=j then(if b=i then c else 0)else 0):=by
 unfold Ro upd idF;by_cases h1:p=j
 ·subst h1;by_cases h2:b=i
  ·subst h2;simp[hji]
  simp[h2]
 simp[h1]
theorem Ku {n:Nat} {y:Nat->Int} {b:Nat} (hb:b<n):cg (fun p=>y p*idF p b) n=y b:=by
 rw[iE hb (fun p hp hn=>by simp[idF,hn])];simp[idF]
theorem PY {n i j:Nat} {c:Int} (hji:j≠i) (hj:j<n) (x:FF) (a b:Nat) (hb:b<n):zJ n x (Ro i j c) a b=x a b+(if b=i then c*x a j else 0):=by
 rw[oM,aT n (G:=fun p=>x a p*idF p b+x a p*(if p=j then(if b=i then c else 0)else 0)) (fun p _=>by rw[OW hji,Int.mul_add]),jA,Ku hb]
 congr 1
 rw[iE hj (fun p _ hn=>by simp[hn])];by_cases h:b=i
 ·simp[h,Int.mul_comm]
 simp[h]
theorem Mi (m p b:Nat):idF (mT m p) b=idF p (mT m b):=by
 unfold idF;have:mT m p=b↔p=mT m b:=⟨fun h=>by rw[<- h,En],fun h=>by rw[h,En]⟩;simp only[this]
theorem PZ {n m:Nat} (hm:m+1<n) (x:FF) (a b:Nat) (hb:b<n):zJ n x (SH m) a b=x a (mT m b):=by
 rw[oM,aT n (G:=fun p=>x a p*idF p (mT m b)) (fun p _=>by rw[<- Mi];rfl),Ku (nI hm hb)]
/-! Which change is made. -/
inductive Ch where
 |add (i j:Nat)
 |swp (m:Nat)
instance (f:FF) (i j:Nat):Decidable (jE f i j):=by unfold jE;exact inferInstance
instance (f:FF) (i:Nat):Decidable (mW f i):=by unfold mW;exact inferInstance
def wm (f:FF) (i:Nat):Nat->Option Nat
 |0=>none
 |j+1=>if jE f i j then wm f i j else some j
def wl (f:FF):Nat->Nat->Option Ch
 |0,_=>none
 |m+1,i=>match wm f i i with
  |some j=>some (.add i j)
  |none=>if 0<i/\ ¬mW f i then some (.swp (i-1))else wl f m (i+1)
def kh (f:FF) (n:Nat):Option Ch:=wl f n 0
theorem kR {f:FF} {i:Nat}: ∀{k},wm f i k=none-> ∀j,j<k->jE f i j
 |k+1,h,j,hj=>by
  unfold wm at h;split at h
  ·rename_i hs;by_cases e:j=k
   ·subst e;exact hs
   exact kR h j (by omega)
  cases h
theorem tX {f:FF} {i j:Nat}: ∀{k},wm f i k=some j->j<k/\ ¬jE f i j/\ ∀j',j<j'->j'<k->jE f i j'
 |k+1,h=>by
  unfold wm at h;split at h
  ·rename_i hs;obtain⟨h1,h2,h3⟩:=tX h;refine⟨by omega,h2,fun j' g1 g2=>?_⟩;by_cases e:j'=k
   ·subst e;exact hs
   exact h3 j' g1 (by omega)
  rename_i hs;injection h with h
  subst h;exact⟨by omega,hs,fun j' g1 g2=>by omega⟩
def qu (f:FF) (i:Nat):Prop:=(∀j,j<i->jE f i j)/\(0<i->mW f i)
theorem tV {f:FF}: ∀{m i},wl f m i=none-> ∀i',i<=i'->i'<i+m->qu f i'
 |0,i,_,i',h1,h2=>by omega
 |m+1,i,h,i',h1,h2=>by
  unfold wl at h;split at h
  ·cases h
  rename_i hj;split at h
  ·cases h
  rename_i hl;by_cases e:i'=i
  ·subst e;exact⟨kR hj,fun h0=>by
    by_cases hL:mW f i'
    ·exact hL
    exact absurd ⟨h0,hL⟩ hl⟩
  exact tV h i' (by omega) (by omega)
def R5 (f:FF):Ch->Prop
 | .add i j=>j<i/\ ¬jE f i j/\(∀j',j<j'->j'<i->jE f i j')/\ ∀i',i'<i->qu f i'
 | .swp m=> ¬mW f (m+1)/\(∀j,j<m+1->jE f (m+1) j)/\ ∀i',i'<m+1->qu f i'
def Dw:Ch->Nat
 | .add i _=>i
 | .swp m=>m+1
theorem tW {f:FF} {c:Ch}: ∀{m i},(∀i',i'<i->qu f i')->wl f m i=some c->R5 f c/\Dw c<i+m
 |m+1,i,hi,h=>by
  unfold wl at h;split at h
  ·rename_i j hj;injection h with h
   subst h;obtain⟨h1,h2,h3⟩:=tX hj;exact⟨⟨h1,h2,h3,hi⟩,by simp[Dw]⟩
  rename_i hj;split at h
  ·rename_i hl;injection h with h
   subst h;have e:i-1+1=i:=by omega
   refine⟨⟨by rw[e];exact hl.2,by rw[e];exact kR hj,by rw[e];exact hi⟩,by simp[Dw];omega⟩
  rename_i hl;have:=tW (m:=m) (i:=i+1) (fun i' h'=>by
   by_cases e:i'=i
   ·subst e;exact⟨kR hj,fun h0=>by
     by_cases hL:mW f i'
     ·exact hL
     exact absurd ⟨h0,hL⟩ hl⟩
   exact hi i' (by omega)) h
  exact⟨this.1,by omega⟩
theorem kQ {f:FF} {n:Nat} {c:Ch} (h:kh f n=some c):R5 f c/\Dw c<n:=by
 have:=tW (f:=f) (m:=n) (i:=0) (fun i' h=>by omega) h;exact⟨this.1,by omega⟩
theorem Cy {f:FF} {n:Nat} (h:kh f n=none):Re f n:=fun i hi=>tV (m:=n) (i:=0) h i (by omega) (by omega)
def uy (i:Nat):Nat:=i*(i-1)/2
def zZ:Ch->Nat
 | .add i j=>uy i+(i-1-j)
 | .swp m=>uy (m+2)
theorem km (i:Nat):uy (i+1)=uy i+i:=by
 unfold uy;cases i with
 |zero=>rfl
 |succ i=>
  rw[Nat.add_sub_cancel,Nat.add_sub_cancel];have:(i+1+1)*(i+1)=(i+1)*i+2*(i+1):=by rw[Nat.add_mul,Nat.one_mul,Nat.mul_add,Nat.mul_add,Nat.add_mul];omega
  rw[this,Nat.add_mul_div_left _ _ (by omega)]
theorem iQ {i j:Nat} (h:i<=j):uy i<=uy j:=by
 induction j with
 |zero=>have:i=0:=(by omega);subst this;exact ae _
 |succ j ih=>
  by_cases e:i=j+1
  ·subst e;exact ae _
  have:=ih (by omega);rw[km];omega
def rankF (f:FF) (n:Nat):Nat:=match kh f n with
 |some c=>zZ c
 |none=>uy n
theorem tH (f:FF) (n:Nat):rankF f n<=uy n:=by
 unfold rankF;split
 ·rename_i c hc;obtain⟨h1,h2⟩:=kQ hc;cases c with
  |add i j=>
   have h2:i<n:=h2;have:=iQ (show i+1<=n by omega);rw[km]at this;obtain⟨h1,_⟩:=h1;simp only[zZ];omega
  |swp m=>
   have h2:m+1<n:=h2;exact iQ (show m+2<=n by omega)
 exact ae _
theorem MZ {f:FF} {n i j:Nat} (hj:j<i) (hi:i<n) (h1: ∀i',i'<i->qu f i') (h2: ∀j',j<=j'->j'<i->jE f i j'):uy i+(i-1-j)<rankF f n:=by
 have hni:=iQ (show i+1<=n by omega);rw[km]at hni;unfold rankF;split
 ·rename_i c hc;obtain⟨g1,g2⟩:=kQ hc;cases c with
  |add i' j'=>
   obtain⟨a1,a2,a3,a4⟩:=g1;simp only[zZ];rcases Nat.lt_trichotomy i' i with h|h|h
   ·exact absurd ((h1 i' h).1 j' a1) a2
   ·subst h;by_cases e:j<=j'
    ·exact absurd (h2 j' e a1) a2
    omega
   have:=iQ (show i+1<=i' by omega);rw[km]at this;omega
  |swp m=>
   obtain⟨a1,a2,a3⟩:=g1;simp only[zZ];by_cases h:m+1<i
   ·exact absurd ((h1 (m+1) h).2 (by omega)) a1
   have:=iQ (show i+1<=m+2 by omega);rw[km]at this;omega
 omega
section
theorem yF {B:Nat} {d1 d0 x y u v:Int} (h1:0<d1) (h0:d0.natAbs<=B) (h:d1*x=d0*y+u*v):x.natAbs<=B*y.natAbs+u.natAbs*v.natAbs:=by
 have e1:d1.natAbs*x.natAbs=(d0*y+u*v).natAbs:=by rw[<- Int.natAbs_mul,h]
 have e2:=Int.natAbs_add_le (d0*y) (u*v);rw[Int.natAbs_mul,Int.natAbs_mul]at e2;have e3:d0.natAbs*y.natAbs<=B*y.natAbs:=Nat.mul_le_mul_right _ h0;have e4:x.natAbs<=d1.natAbs*x.natAbs:=Nat.le_mul_of_pos_left _ (by omega);omega
theorem JA {d1 d0 x y l:Int} (h1:0<d1) (h0:0<d0) (hx:0<x) (hy:0<y) (h:d1*x=d0*y+l*l):d1.natAbs*x.natAbs=d0.natAbs*y.natAbs+l.natAbs*l.natAbs:=by
 apply Int.ofNat_inj.1;rw[Int.natCast_add,Int.natCast_mul,Int.natCast_mul,Int.natCast_mul,Int.natAbs_of_nonneg (by omega),Int.natAbs_of_nonneg (by omega),Int.natAbs_of_nonneg (by omega),Int.natAbs_of_nonneg (by omega),Int.natAbs_mul_self',h]
structure Def (f:FF) (n B:Nat):Prop where
 sym:SymF f n
 pos: ∀t,t<n->0<dk f (t+1)
 le: ∀k,k<=n->(dk f k).natAbs<=B
section
variable {f:FF} {n B:Nat}
theorem Def.ne (h:Def f n B): ∀t,t<n->dk f (t+1)≠0:=fun t ht=>by have:=h.pos t ht;omega
theorem Def.pos0 (h:Def f n B) {k:Nat} (hk:k<=n):0<dk f k:=by
 cases k with
 |zero=>rw[cj];omega
 |succ k=>exact h.pos k (by omega)
theorem Def.sylv (h:Def f n B) {k a b:Nat} (hk:k<n) (ha:a<n) (hb:b<n):dk f (k+1)*bk f k a b=dk f k*bk f (k+1) a b+bk f k a k*bk f k b k:=by
 have s:=Go.Proofs.YtalmoejhjceflaaGreat.sylv f k (fun t ht=>h.ne t (by omega)) a b;rw[ip h.sym k (by omega) (fun t ht=>h.ne t (by omega)) k b hk hb]at s;omega
theorem Def.diag (h:Def f n B) {a:Nat} (ha:a<n): ∀m k,a-k=m->k<=a->0<bk f k a a
 |0,k,hm,hk=>by
  have:k=a:=by omega
  subst this;rw[<- bT];exact h.pos k ha
 |m+1,k,hm,hk=>by
  have ih:=h.diag ha m (k+1) (by omega) (by omega);have s:=h.sylv (k:=k) (by omega) ha ha;have p1:=h.pos k (by omega);have p0:=h.pos0 (k:=k) (by omega);have q1:=Int.mul_pos p0 ih;have q2:0<=bk f k a k*bk f k a k:=by
   rcases Int.le_total 0 (bk f k a k)with h|h
   ·exact Int.mul_nonneg h h
   exact Int.mul_nonneg_of_nonpos_of_nonpos h h
  rcases Int.lt_or_le 0 (bk f k a a)with h|h
  ·exact h
  have:=Int.mul_nonpos_of_nonneg_of_nonpos (Int.le_of_lt p1) h;omega
theorem Def.down (h:Def f n B) {a k:Nat} (ha:a<n) (hk:k<a):(bk f k a k).natAbs*(bk f k a k).natAbs<=B*(bk f k a a).natAbs/\(bk f (k+1) a a).natAbs<=B*(bk f k a a).natAbs:=by
 have s:=JA (h.pos k (by omega)) (h.pos0 (k:=k) (by omega)) (h.diag ha _ k rfl (by omega)) (h.diag ha _ (k+1) rfl (by omega)) (h.sylv (k:=k) (by omega) ha ha);have hB:=Nat.mul_le_mul_right (bk f k a a).natAbs (h.le (k+1) (by omega));have p0:=h.pos0 (k:=k) (by omega);have:=Nat.le_mul_of_pos_left (bk f (k+1) a a).natAbs (show 0<(dk f k).natAbs by omega);omega
theorem Def.nm (h:Def f n B) {a:Nat} (ha:a<n): ∀k,k<=a->(bk f k a a).natAbs<=B^k*(f a a).natAbs
 |0,_=>by rw[cp];simp
 |k+1,hk=>by
  have h1:=(h.down ha (show k<a by omega)).2;have h2:=aB B (h.nm ha k (by omega));rw[Nat.pow_succ,Nat.mul_comm (B^k) B,Nat.mul_assoc];omega
theorem Def.lam_le (h:Def f n B) {a k C:Nat} (ha:a<n) (hk:k<a) (hB:1<=B) (hC:(f a a).natAbs<=C):(bk f k a k).natAbs<=B^n*C:=by
 have h1:=(h.down ha hk).1;have h2:=aB B (h.nm ha k (by omega));have h3:(bk f k a k).natAbs<=(bk f k a k).natAbs*(bk f k a k).natAbs:=Nat.le_mul_self _;have h4:B*(B^k*(f a a).natAbs)=B^(k+1)*(f a a).natAbs:=by rw[Nat.pow_succ,Nat.mul_comm (B^k) B,Nat.mul_assoc]
 have h5:B^(k+1)<=B^n:=aD hB (by omega);have h6:B^(k+1)*(f a a).natAbs<=B^n*C:=Nat.mul_le_mul h5 hC;omega
theorem Def.up (h:Def f n B) {a L:Nat} (ha:a<n) (hL: ∀k,k<a->(bk f k a k).natAbs<=L): ∀m k,a-k=m->k<=a->(bk f k a a).natAbs<=(B+L*L)*(B+1)^m
 |0,k,hm,hk=>by
  have:k=a:=by omega
  subst this;rw[<- bT];have:=h.le (k+1) (by omega)
  simp;omega
 |m+1,k,hm,hk=>by
  have ih:=h.up ha hL m (k+1) (by omega) (by omega);have s:=yF (h.pos k (by omega)) (h.le k (by omega)) (h.sylv (k:=k) (by omega) ha ha);have hl:=hL k (by omega);have h2:=Nat.mul_le_mul hl hl;have h3:=aB B ih;have h4:L*L<=(B+L*L)*(B+1)^m:=aA (by omega) (Nat.le_mul_of_pos_right _ (Nat.pow_pos (by omega)));rw[Nat.pow_succ,<- Nat.mul_assoc,Nat.mul_add,Nat.mul_one,Nat.mul_comm _ B];omega
theorem Def.norm_le (h:Def f n B) {a L:Nat} (ha:a<n) (hL: ∀k,k<a->(bk f k a k).natAbs<=L):(f a a).natAbs<=(B+L*L)*(B+1)^n:=by
 have h1:=h.up ha hL a 0 rfl (by omega);rw[cp]at h1;exact aA h1 (aB _ (aD (by omega) (by omega)))
theorem Def.ent_up (h:Def f n B) {a b L:Nat} (ha:a<n) (hb:b<a) (hL: ∀a k,a<n->k<a->(bk f k a k).natAbs<=L): ∀m k,b-k=m->k<=b->(bk f k a b).natAbs<=(L+L*L)*(B+1)^m
 |0,k,hm,hk=>by
  have:k=b:=by omega
  subst this;have:=hL a k ha hb
  simp;omega
 |m+1,k,hm,hk=>by
  have ih:=h.ent_up ha hb hL m (k+1) (by omega) (by omega);have s:=yF (h.pos k (by omega)) (h.le k (by omega)) (h.sylv (k:=k) (a:=a) (b:=b) (by omega) ha (by omega));have h2:=Nat.mul_le_mul (hL a k ha (by omega)) (hL b k (by omega) (by omega));have h3:=aB B ih;have h4:L*L<=(L+L*L)*(B+1)^m:=aA (by omega) (Nat.le_mul_of_pos_right _ (Nat.pow_pos (by omega)));rw[Nat.pow_succ,<- Nat.mul_assoc,Nat.mul_add,Nat.mul_one,Nat.mul_comm _ B];omega
theorem Def.ent_le (h:Def f n B) {L:Nat} (hL: ∀a k,a<n->k<a->(bk f k a k).natAbs<=L) {a b:Nat} (ha:a<n) (hb:b<n):(f a b).natAbs<=(B+L+L*L)*(B+1)^n:=by
 have key: ∀a b,a<n->b<a->(f a b).natAbs<=(B+L+L*L)*(B+1)^n:=fun a b ha hb=>by
  have h1:=h.ent_up ha hb hL b 0 rfl (by omega);rw[cp]at h1;refine aA h1 (Nat.mul_le_mul (by omega) (aD (by omega) (by omega)))
 rcases Nat.lt_trichotomy a b with h'|h'|h'
 ·rw[h.sym a ha b hb];exact key b a hb h'
 ·subst h';have h1:=h.norm_le ha (fun k hk=>hL a k ha hk);exact aA h1 (Nat.mul_le_mul_right _ (by omega))
 exact key a b ha h'
end
/-! The numbers of the reduction. -/
section
variable {f:FF} {n B:Nat}
def cN (n B:Nat):Nat:=(B+B*B)*(B+1)^n
def l0 (n B:Nat):Nat:=B^n*cN n B
theorem uf (h:Def f n B) {i j:Nat} (hi:i<n) (hj:j<i):jE f i j↔2*((bk f j i j).natAbs:Int)<=dk f (j+1):=by
 rw[jE,nk h.pos (by omega),jZ h.pos (by omega)]
theorem Cc (h:Def f n B) {i:Nat} (hi:i<n) (h0:0<i):mW f i↔3*(dk f i*dk f i)<=4*(dk f (i-1)*dk f (i+1)+bk f (i-1) i (i-1)*bk f (i-1) i (i-1)):=by
 rw[mW,nk h.pos (by omega),jZ h.pos (by omega),jZ h.pos (by omega),jZ h.pos (by omega)]
theorem CB (h:Def f n B) {i j:Nat} (hi:i<n) (hj:j<i) (hs:jE f i j):(bk f j i j).natAbs<=B:=by
 have h1:=(uf h hi hj).1 hs;have h2:=h.le (j+1) (by omega);omega
theorem qf (h:Def f n B) {i:Nat} (hi:i<n) (hs: ∀j,j<i->jE f i j):(f i i).natAbs<=cN n B:=h.norm_le hi fun k hk=>CB h hi hk (hs k hk)
def Jn (f:FF) (n B:Nat):Prop:=(∀a,a<n->(f a a).natAbs<=cN n B)\/
 ∃i,i<n/\(∀a,a<n->a≠i->(f a a).natAbs<=cN n B)/\(∀i',i'<i->qu f i')/\ ∃s,s<=i/\(∀j',s<=j'->j'<i->jE f i j')/\ ∀k,k<i->(bk f k i k).natAbs+2<=(l0 n B+2)*(B+2)^(i-s)
def lM (n B:Nat):Nat:=(l0 n B+2)*(B+2)^n
theorem Jn.lam (h:Def f n B) (hB:1<=B) (hj:Jn f n B): ∀a k,a<n->k<a->(bk f k a k).natAbs<=lM n B:=by
 have h1:l0 n B<=lM n B:=aA (by omega) (Nat.le_mul_of_pos_right _ (Nat.pow_pos (by omega)));have h2: ∀e,e<=n->(l0 n B+2)*(B+2)^e<=lM n B:=fun e he=>aB _ (aD (by omega) he)
 rcases hj with hj|⟨i,hi,hj,_,s,hs,_,hl⟩
 ·exact fun a k ha hk=>aA (h.lam_le ha hk hB (hj a ha)) h1
 intro a k ha hk;by_cases e:a=i
 ·subst e;have:=hl k hk;have:=h2 (a-s) (by omega);omega
 exact aA (h.lam_le ha hk hB (hj a ha e)) h1
def eN (n B:Nat):Nat:=(B+lM n B+lM n B*lM n B)*(B+1)^n
theorem Jn.ent (h:Def f n B) (hB:1<=B) (hj:Jn f n B) {a b:Nat} (ha:a<n) (hb:b<n):(f a b).natAbs<=eN n B:=h.ent_le (hj.lam h hB) ha hb
end
end
section
theorem MX {l d:Int} (hd:0<d):2*((l+ -(qF l d)*d).natAbs:Int)<=d:=by
 unfold qF;have h1:=Int.emod_add_mul_ediv (2*l+d) (2*d);have h2:=Int.emod_nonneg (2*l+d) (show 2*d≠0 by omega);have h3:=Int.emod_lt_of_pos (2*l+d) (show 0<2*d by omega);generalize(2*l+d)/(2*d)=q at*
 have e:2*d*q=2*(q*d):=by rw[Int.mul_assoc,Int.mul_comm d q]
 rw[e]at h1;have e2: -q*d= -(q*d):=Int.neg_mul q d;rw[e2];omega
theorem JX {l d:Int} (hd:0<d):(qF l d).natAbs<=l.natAbs+1:=by
 unfold qF;have h1:=Int.emod_add_mul_ediv (2*l+d) (2*d);have h2:=Int.emod_nonneg (2*l+d) (show 2*d≠0 by omega);have h3:=Int.emod_lt_of_pos (2*l+d) (show 0<2*d by omega);generalize(2*l+d)/(2*d)=q at*
 have e:2*d*q=2*(d*q):=Int.mul_assoc 2 d q;rw[e]at h1;have e2:(d*q).natAbs=d.natAbs*q.natAbs:=Int.natAbs_mul d q;have e3:l.natAbs<=d.natAbs*l.natAbs:=Nat.le_mul_of_pos_left _ (by omega);rcases Nat.lt_or_ge (l.natAbs+1) q.natAbs with h|h
 ·exfalso;have h4:=aB d.natAbs (show l.natAbs+2<=q.natAbs by omega);rw[Nat.mul_add]at h4;omega
 exact h
section
variable {f:FF} {n B:Nat}
theorem H8 (hs:SymF f n) {i j:Nat} (c:Int) (hj:j<n):SymF (ef f i j c) n:=fun a ha b hb=>by
 by_cases hab:a=b
 ·subst hab;rfl
 unfold ef;rw[hs a ha b hb];by_cases h1:a=i
 ·by_cases h2:b=i
  ·omega
  simp only[h1,h2,if_true,if_false];rw[hs j hj b hb];omega
 by_cases h2:b=i
 ·simp only[h1,h2,if_true,if_false];rw[hs a ha j hj];omega
 simp only[h1,h2,if_false]
theorem Def.add (h:Def f n B) {i j:Nat} (c:Int) (hji:j<i) (hi:i<n):Def (ef f i j c) n B:=by
 obtain⟨h1,_⟩:=iU h.sym h.ne c hji hi;exact⟨H8 h.sym c (by omega),fun t ht=>by rw[h1 (t+1) (by omega)];exact h.pos t ht,fun k hk=>by rw[h1 k hk];exact h.le k hk⟩
theorem wc (h:Def f n B) {i j:Nat} (c:Int) (hji:j<i) (hi:i<n) {i':Nat} (hi':i'<i) (hr:qu f i'):qu (ef f i j c) i':=by
 have h':=h.add c hji hi;obtain⟨h1,h2,h3⟩:=iU h.sym h.ne c hji hi;have hb: ∀k,k<i'->bk (ef f i j c) k i' k=bk f k i' k:=fun k hk=>by
  by_cases e:k<=j
  ·rw[h2 k i' k e,rV (by omega) (by omega)]
  exact h3 k i' k (by omega) (by omega) (by omega) (by omega)
 refine⟨fun k hk=>?_,fun h0=>?_⟩
 ·rw[uf h' (by omega) hk,hb k hk,h1 _ (by omega)];exact(uf h (by omega) hk).1 (hr.1 k hk)
 rw[Cc h' (by omega) h0,hb _ (by omega),h1 _ (by omega),h1 _ (by omega),h1 _ (by omega)];exact(Cc h (by omega) h0).1 (hr.2 h0)
def cF (f:FF) (i j:Nat):Int:= -(qF (lam f i j) (dd f (j+1)))
theorem Ih (h:Def f n B) {i j:Nat} (hj:j<n):cF f i j= -(qF (bk f j i j) (dk f (j+1))):=by rw[cF,nk h.pos hj,jZ h.pos (by omega)]
theorem xZ (h:Def f n B) {i j:Nat} (hji:j<i) (hi:i<n) {j':Nat} (h1:j<=j') (h2:j'<i) (hs:j<j'->jE f i j'):jE (ef f i j (cF f i j)) i j':=by
 have h':=h.add (cF f i j) hji hi;obtain⟨g1,g2,g3⟩:=iU h.sym h.ne (cF f i j) hji hi;rw[uf h' hi h2,g1 _ (by omega)];by_cases e:j'=j
 ·subst e;rw[g2 j' i j' (by omega)];have:ef (bk f j') i j' (cF f i j') i j'=bk f j' i j'+cF f i j'*dk f (j'+1):=by
   unfold ef;have hn: ¬j'=i:=by omega
   simp only[if_true,hn,if_false];rw[bT];omega
  rw[this,Ih h (by omega)];exact MX (h.pos j' (by omega))
 rw[g3 j' i j' (by omega) (by omega) hi (by omega)];exact(uf h hi h2).1 (hs (by omega))
theorem OK (h:Def f n B) (hB:1<=B) (hJ:Jn f n B) {i j:Nat} (hF:R5 f (.add i j)) (hi:i<n):Jn (ef f i j (cF f i j)) n B:=by
 obtain⟨hji,hns,hs,hr⟩:=hF;obtain⟨g1,g2,g3⟩:=iU h.sym h.ne (cF f i j) hji hi;have hoff: ∀a,a≠i->ef f i j (cF f i j) a a=f a a:=fun a ha=>rV ha ha
 -- the new lambdas of row i
 have hnew: ∀M:Nat,(∀k,k<i->(bk f k i k).natAbs+2<=M)-> ∀k,k<i->(bk (ef f i j (cF f i j)) k i k).natAbs+2<=M*(B+2):=fun M hM k hk=>by
  have hMk:=hM k hk;have hMj:=hM j hji;have e0:M*(B+2)=M*B+2*M:=by rw[Nat.mul_add,Nat.mul_comm M 2]
  rcases Nat.lt_trichotomy k j with e|e|e
  ·rw[g2 k i k (by omega)];have e1:ef (bk f k) i j (cF f i j) i k=bk f k i k+cF f i j*bk f k j k:=by
    unfold ef;have hn: ¬k=i:=by omega
    simp only[if_true,hn,if_false];omega
   rw[e1];have a1:=Int.natAbs_add_le (bk f k i k) (cF f i j*bk f k j k);rw[Int.natAbs_mul]at a1;have a2:(cF f i j).natAbs<=(bk f j i j).natAbs+1:=by rw[Ih h (by omega),Int.natAbs_neg];exact JX (h.pos j (by omega))
   have a3:(bk f k j k).natAbs<=B:=CB h (by omega) e ((hr j hji).1 k e);have a4:=Nat.mul_le_mul (show(cF f i j).natAbs<=M by omega) a3;omega
  ·subst e;have hz:=xZ h hji hi (ae k) hk (fun h=>by omega);have:=CB (h.add (cF f i k) hji hi) hi hk hz;have:B<=M*B:=Nat.le_mul_of_pos_left _ (by omega);omega
  rw[g3 k i k (by omega) (by omega) hi (by omega)];have:0<=M*B:=Nat.zero_le _;omega
 have hfin: ∀M e:Nat,1<=e->e<=i-j->M*(B+2)<=(l0 n B+2)*(B+2)^e->(∀a,a<n->a≠i->(f a a).natAbs<=cN n B)->(∀k,k<i->(bk f k i k).natAbs+2<=M)->Jn (ef f i j (cF f i j)) n B:=fun M e he1 he2 hMe hA hM=>by
  refine .inr ⟨i,hi,fun a ha hne=>by rw[hoff a hne];exact hA a ha hne,fun i' hi'=>wc h _ hji hi hi' (hr i' hi'),j,by omega,fun j' h1 h2=>xZ h hji hi h1 h2 (fun h3=>hs j' h3 h2),fun k hk=>?_⟩;refine aA (hnew M hM k hk) (aA hMe (aB _ (aD (by omega) he2)))
 rcases hJ with hA|⟨i1,hi1,hA,hr1,s,hs1,hs2,hl⟩
 ·refine hfin (l0 n B+2) 1 (by omega) (by omega) (by rw[Nat.pow_one];exact ae _) (fun a ha _=>hA a ha) (fun k hk=>?_);have:(bk f k i k).natAbs<=l0 n B:=h.lam_le hi hk hB (hA i hi);omega
 by_cases e:i1=i
 ·subst e;have hjs:j<s:=by
   rcases Nat.lt_or_ge j s with h'|h'
   ·exact h'
   exact absurd (hs2 j h' hji) hns
  refine hfin ((l0 n B+2)*(B+2)^(i1-s)) (i1-s+1) (by omega) (by omega) (by rw[Nat.pow_succ,Nat.mul_assoc];exact ae _) hA hl
 have hall:(f i1 i1).natAbs<=cN n B:=by
  rcases Nat.lt_or_ge i1 i with h'|h'
  ·exact qf h hi1 (hr i1 h').1
  exact absurd ((hr1 i (by omega)).1 j hji) hns
 have hA': ∀a,a<n->(f a a).natAbs<=cN n B:=fun a ha=>by
  by_cases e':a=i1
  ·subst e';exact hall
  exact hA a ha e'
 refine hfin (l0 n B+2) 1 (by omega) (by omega) (by rw[Nat.pow_one];exact ae _) (fun a ha _=>hA' a ha) (fun k hk=>?_);have:(bk f k i k).natAbs<=l0 n B:=h.lam_le hi hk hB (hA' i hi);omega
theorem wz (h:Def f n B) {m:Nat} (hm:m+1<n) (hl: ¬mW f (m+1)):4*dk (i9 f m) (m+1)<3*dk f (m+1)/\0<dk (i9 f m) (m+1):=by
 obtain⟨h1,h2⟩:=uv h.sym h.pos hm;refine⟨?_,h2⟩;have h3: ¬3*(dk f (m+1)*dk f (m+1))<=4*(dk f m*dk f (m+2)+bk f m (m+1) m*bk f m (m+1) m):=fun hh=>hl ((Cc h hm (by omega)).2 hh)
 rw[<- h1]at h3;have p:=h.pos m (by omega);rcases Int.lt_or_le (4*dk (i9 f m) (m+1)) (3*dk f (m+1))with h4|h4
 ·exact h4
 exfalso;have h5:=Int.mul_le_mul_of_nonneg_left h4 (Int.le_of_lt p);have e1:dk f (m+1)*(3*dk f (m+1))=3*(dk f (m+1)*dk f (m+1)):=Int.mul_left_comm _ _ _;have e2:dk f (m+1)*(4*dk (i9 f m) (m+1))=4*(dk f (m+1)*dk (i9 f m) (m+1)):=Int.mul_left_comm _ _ _;omega
theorem Def.swap (h:Def f n B) {m:Nat} (hm:m+1<n) (hl: ¬mW f (m+1)):Def (i9 f m) n B:=by
 obtain⟨h1,_⟩:=mb h.sym h.pos hm;obtain⟨g1,g2⟩:=wz h hm hl;have p:=h.pos m (by omega);refine⟨fun a ha b hb=>h.sym _ (nI hm ha) _ (nI hm hb),fun t ht=>?_,fun k hk=>?_⟩
 ·by_cases e:t=m
  ·subst e;exact g2
  rw[h1 (t+1) (by omega) (by omega)];exact h.pos t ht
 by_cases e:k=m+1
 ·subst e;have:=h.le (m+1) hk;omega
 rw[h1 k hk e];exact h.le k hk
theorem Lp (h:Def f n B) (hJ:Jn f n B) {m:Nat} (hF:R5 f (.swp m)) (hm:m+1<n):Jn (i9 f m) n B:=by
 obtain⟨hnl,hs,hr⟩:=hF;have hA: ∀a,a<n->(f a a).natAbs<=cN n B:=by
  rcases hJ with hA|⟨i,hi,hA,hr1,_⟩
  ·exact hA
  intro a ha;by_cases e:a=i
  ·subst e;rcases Nat.lt_trichotomy a (m+1)with h'|h'|h'
   ·exact qf h ha (hr a h').1
   ·subst h';exact qf h ha hs
   exact absurd ((hr1 (m+1) h').2 (by omega)) hnl
  exact hA a ha e
 exact .inl fun a ha=>hA _ (nI hm ha)
def prD (f:FF):Nat->Nat
 |0=>1
 |k+1=>prD f k*(dk f (k+1)).natAbs
theorem p9 {g:FF}: ∀k,(∀t,t<k->dk g (t+1)=dk f (t+1))->prD g k=prD f k
 |0,_=>rfl
 |k+1,h=>by rw[prD,prD,p9 k (fun t ht=>h t (by omega)),h k (by omega)]
theorem Ef (h:Def f n B): ∀k,k<=n->0<prD f k
 |0,_=>by simp[prD]
 |k+1,hk=>by
  have:=h.pos k (by omega);exact Nat.mul_pos (Ef h k (by omega)) (by omega)
theorem JT (h:Def f n B): ∀k,k<=n->prD f k<=B^k
 |0,_=>by simp[prD]
 |k+1,hk=>by rw[prD,Nat.pow_succ];exact Nat.mul_le_mul (JT h k (by omega)) (h.le (k+1) hk)
theorem zT (h:Def f n B) {m:Nat} (hm:m+1<n) (hl: ¬mW f (m+1)): ∀k,m<k->k<=n->4*prD (i9 f m) k<=3*prD f k
 |k+1,hk,hkn=>by
  obtain⟨h1,_⟩:=mb h.sym h.pos hm;obtain⟨g1,g2⟩:=wz h hm hl;have p:=h.pos m (by omega);rw[prD,prD];by_cases e:k=m
  ·subst e;rw[p9 k (fun t ht=>h1 (t+1) (by omega) (by omega)),Nat.mul_left_comm,Nat.mul_left_comm 3];exact aB _ (by omega)
  have ih:=zT h hm hl k (by omega) (by omega);rw[h1 (k+1) hkn (by omega),<- Nat.mul_assoc,<- Nat.mul_assoc];exact Nat.mul_le_mul_right _ ih
end
/-! Bounds of the minors of a matrix of small entries. -/
theorem I4 {E:Nat} {r:Nat->Int} (hr: ∀c,(r c).natAbs<=E) {M:Nat}: ∀(cs:List Nat) (N:Nat) (F:List Nat->Int),cs.length<=N->(∀l,l.length<=N->(F l).natAbs<=M)->(dc r F cs).natAbs<=cs.length*(E*M)
 |[],_,_,_,_=>by simp[dc]
 |c::cs,N,F,hN,hF=>by
  rw[dc];have h1:=Int.natAbs_sub_le (r c*F cs) (dc r (fun l=>F (c::l)) cs);have h2:=I4 hr cs (N-1) (fun l=>F (c::l)) (by simp at hN;omega) (fun l hl=>hF (c::l) (by simp at hN⊢;omega));rw[Int.natAbs_mul]at h1;have h3:=Nat.mul_le_mul (hr c) (hF cs (by simp at hN;omega));rw[List.length_cons,Nat.add_mul,Nat.one_mul];omega
theorem On {E L:Nat} {f:FF} (hf: ∀a b,(f a b).natAbs<=E): ∀k l,l.length<=L->(om f k l).natAbs<=(L*E)^k
 |0,l,_=>by simp[om]
 |k+1,l,hl=>by
  rw[om];have:=I4 (hf k) l L (om f k) hl (fun l hl=>On hf k l hl);have h2:l.length*(E*(L*E)^k)<=L*(E*(L*E)^k):=Nat.mul_le_mul_right _ hl;rw[Nat.pow_succ,Nat.mul_comm ((L*E)^k),Nat.mul_assoc];exact aA this h2
theorem DA: ∀k,(pK k).length=k
 |0=>rfl
 |k+1=>by rw[pK,List.length_cons,DA k]
abbrev bB:Nat:=722204136308736
theorem Pn {E L:Nat} (h1:1<=L*E) {f:FF} (hf: ∀a b,(f a b).natAbs<=E) {k:Nat} (hk:k<=L):(dk f k).natAbs<=(L*E)^L:=
 aA (On hf k (pK k) (by rw[DA];exact hk)) (aD h1 hk)
theorem Rx {f:FF} (hf: ∀a b,(f a b).natAbs<=9) {k:Nat} (hk:k<=8):(dk f k).natAbs<=bB:=by
 have h1:=Pn (L:=8) (by decide) hf hk;have h3:((8*9:Nat))^8=bB:=by decide
 rwa[h3]at h1
end
section
def S5 (f:FF):Ch->Nat->Nat->Int
 | .add i j=>ef f i j (cF f i j)
 | .swp m=>i9 f m
def S6 (f:FF):Ch->Nat->Nat->Int
 | .add i j=>Ro i j (cF f i j)
 | .swp m=>SH m
inductive QV (n:Nat):(Nat->Nat->Int)->(Nat->Nat->Int)->(Nat->Nat->Int)->(Nat->Nat->Int)->Prop
 |done (f t:FF) (h:kh f n=none):QV n f t f t
 |step (f t h T:FF) (c:Ch) (hc:kh f n=some c) (hr:QV n (S5 f c) (zJ n t (S6 f c)) h T):QV n f t h T
structure G6 (N B S Z:Nat):Prop where
 n8:N<=8
 b1:9<=B
 lMs: ∀n,n<N+1->lM n B+1<4294967296^Z
 eNs: ∀n,n<N+1->eN n B<4294967296^400
 pt: ¬4^S<=3^S*B^N
 sz:(Z+4)*(28*S+28)+1<=16000000
 z4:Z<=400
structure RedI (N B Z n:Nat) (f0 f t:FF) (s adds:Nat):Prop where
 dfn:Def f n B
 jn:Jn f n B
 det:dk f n=dk f0 n
 pot:4^s*prD f n<=3^s*B^N
 cnt:adds<=28*s+rankF f n
 szt: ∀a b,a<n->b<n->Sz (t a b) (1+(Z+4)*adds)
theorem S2:G6 8 bB 970 41:=⟨by decide,by decide,by decide+kernel,by decide+kernel,by decide+kernel,by decide,by decide⟩
theorem CH {n:Nat} (h:n<=8):uy n<=28:=aA (iQ h) (by decide)
theorem MV {C:Nat} (K:Nat) (hK: ¬4^K<=3^K*C) (s:Nat) (hs:K<=s) (h1:4^s<=3^s*C):False:=by
 obtain⟨r,rfl⟩: ∃r,s=K+r:=⟨s-K,by omega⟩;rw[Nat.pow_add,Nat.pow_add]at h1;have h2:3^K*3^r*C<=3^K*C*4^r:=by
  rw[Nat.mul_assoc,Nat.mul_comm (3^r),<- Nat.mul_assoc];exact aB _ (Nat.pow_le_pow_left (by omega) r)
 exact hK (Nat.le_of_mul_le_mul_right (aA h1 h2) (Nat.pow_pos (by omega)))
section
variable {N B S Z:Nat} {n:Nat} {f0 f t:FF} {s adds:Nat}
theorem RedI.s_le (k:G6 N B S Z) (h:RedI N B Z n f0 f t s adds):s<S:=by
 rcases Nat.lt_or_ge s S with hs|hs
 ·exact hs
 exfalso;have p1:=Ef h.dfn n (ae _);have h1:4^s<=3^s*B^N:=aA (Nat.le_mul_of_pos_right _ p1) h.pot;exact MV S k.pt s hs h1
theorem RedI.szc (k:G6 N B S Z) (h:RedI N B Z n f0 f t s adds) (hn:n<=N) {i j:Nat} (hi:i<n) (hj:j<i):Sz (cF f i j) Z:=by
 rw[Ih h.dfn (by omega)];have h1:=JX (l:=bk f j i j) (h.dfn.pos j (by omega));have h2:=h.jn.lam h.dfn (aA (by decide) k.b1) i j hi hj;have h3:=k.lMs n (by omega);unfold Sz;rw[Int.natAbs_neg];generalize 4294967296^Z=p at*
 omega
theorem Gi {c:Ch} (h:kh f n=some c):rankF f n=zZ c:=by unfold rankF;rw[h]
theorem RedI.add (k:G6 N B S Z) (h:RedI N B Z n f0 f t s adds) (hn:n<=N) {i j:Nat} (hc:kh f n=some (.add i j)):RedI N B Z n f0 (ef f i j (cF f i j)) (zJ n t (Ro i j (cF f i j))) s (adds+1)/\rankF f n<rankF (ef f i j (cF f i j)) n:=by
 obtain⟨hF,hi⟩:=kQ hc;have hi:i<n:=hi;obtain⟨hji,hns,hs,hr⟩:=id hF;have hrk:rankF f n<rankF (ef f i j (cF f i j)) n:=by
  rw[Gi hc];exact MZ hji hi (fun i' hi'=>wc h.dfn _ hji hi hi' (hr i' hi')) (fun j' h1 h2=>xZ h.dfn hji hi h1 h2 (fun h3=>hs j' h3 h2))
 obtain⟨g1,_⟩:=iU h.dfn.sym h.dfn.ne (cF f i j) hji hi;have hcn:=h.cnt;refine⟨⟨h.dfn.add _ hji hi,OK h.dfn (aA (by decide) k.b1) h.jn hF hi,by rw[g1 n (ae _)];exact h.det,by rw[p9 n (fun t ht=>g1 (t+1) (by omega))];exact h.pot,by omega,fun a b ha hb=>?_⟩,hrk⟩;rw[PY (by omega) (by omega) t a b hb];have z1:=h.szt a b ha hb;split
 ·have z2:=(h.szc k hn hi hji).mul (h.szt a j ha (by omega));exact(Sz.add (z1.mono (l:=Z+(1+(Z+4)*adds)) (by omega)) z2).mono (by rw[Nat.mul_add];omega)
 rw[Int.add_zero];exact z1.mono (by rw[Nat.mul_add];omega)
theorem RedI.swap (k:G6 N B S Z) (h:RedI N B Z n f0 f t s adds) (hn:n<=N) {m:Nat} (hc:kh f n=some (.swp m)):RedI N B Z n f0 (i9 f m) (zJ n t (SH m)) (s+1) adds:=by
 obtain⟨hF,hm⟩:=kQ hc;have hm:m+1<n:=hm;obtain⟨hnl,_,_⟩:=id hF;obtain⟨g1,_⟩:=mb h.dfn.sym h.dfn.pos hm;have hcn:=h.cnt;have h3:=tH f n;have h4:=CH (aA hn k.n8);refine⟨h.dfn.swap hm hnl,Lp h.dfn h.jn hF hm,by rw[g1 n (ae _) (by omega)];exact h.det,?_,by omega,fun a b ha hb=>?_⟩
 ·have p:=zT h.dfn hm hnl n (by omega) (ae _);have q:=aB (4^s) p;have e1:4^(s+1)*prD (i9 f m) n=4^s*(4*prD (i9 f m) n):=by rw[Nat.pow_succ,Nat.mul_assoc]
  have e2:4^s*(3*prD f n)=3*(4^s*prD f n):=Nat.mul_left_comm _ _ _;have e3:3^(s+1)*B^N=3*(3^s*B^N):=by rw[Nat.pow_succ,Nat.mul_comm (3^s) 3,Nat.mul_assoc]
  rw[e1,e3];rw[e2]at q;exact aA q (aB 3 h.pot)
 rw[PZ hm t a b hb];exact h.szt a _ ha (nI hm hb)
def PW (S n:Nat) (f:FF) (s:Nat):Nat:=(S-s)*30+(29-rankF f n)
theorem RedI.mu_add (k:G6 N B S Z) (h:RedI N B Z n f0 f t s adds) (hn:n<=N) {i j:Nat} (hc:kh f n=some (.add i j)):PW S n (ef f i j (cF f i j)) s<PW S n f s:=by
 have h1:=(h.add k hn hc).2;have h2:=tH (ef f i j (cF f i j)) n;have h3:=CH (aA hn k.n8);unfold PW;omega
theorem RedI.mu_swap (k:G6 N B S Z) (h:RedI N B Z n f0 f t s adds) (hn:n<=N) {m:Nat} (hc:kh f n=some (.swp m)):PW S n (i9 f m) (s+1)<PW S n f s:=by
 have h1:=(h.swap k hn hc).s_le k;have h2:=tH f n;have h3:=CH (aA hn k.n8);unfold PW;omega
theorem nD (k:G6 N B S Z) (hn:n<=N): ∀m f t s adds,PW S n f s<=m->RedI N B Z n f0 f t s adds-> ∃h T,QV n f t h T
 |0,f,t,s,adds,hk,h=>by
  cases hc:kh f n with
  |none=>exact⟨f,t,.done f t hc⟩
  |some c=>
   cases c with
   |add i j=>have:=h.mu_add k hn hc;omega
   |swp m=>have:=h.mu_swap k hn hc;omega
 |m+1,f,t,s,adds,hk,h=>by
  cases hc:kh f n with
  |none=>exact⟨f,t,.done f t hc⟩
  |some c=>
   cases c with
   |add i j=>
    have:=h.mu_add k hn hc;obtain⟨g,T,hr⟩:=nD k hn m _ _ _ _ (by omega) (h.add k hn hc).1;exact⟨g,T,.step f t g T _ hc hr⟩
   |swp q=>
    have:=h.mu_swap k hn hc;obtain⟨g,T,hr⟩:=nD k hn m _ _ _ _ (by omega) (h.swap k hn hc);exact⟨g,T,.step f t g T _ hc hr⟩
theorem RedI.red (h:RedI N B Z n f0 f t s adds) (hn1:1<=n) (hd:dk f0 n<=10000) (hc:kh f n=none):RedR f n:=by
 refine(M4 hn1).1 ⟨h.dfn.sym,fun k hk=>?_,?_,Cy hc⟩
 ·rw[ou h.dfn.pos k hk];exact h.dfn.pos k hk
 have:=ou h.dfn.pos (n-1) (by omega);rw[show n-1+1=n by omega]at this;rw[this,h.det];exact hd
theorem RedI.start_ (k:G6 N B S Z) (hn:n<=N) (hs:SymF f n) (hp:Hi f n) (hdb: ∀k,k<=n->(dk f k).natAbs<=B) (hb: ∀a,a<n->(f a a).natAbs<=B) (ht: ∀a b,a<n->b<n->Sz (t a b) 1):RedI N B Z n f f t 0 0:=by
 have hpos: ∀k,k<n->0<dk f (k+1):=fun k hk=>(xE hp k hk).1
 have hdef:Def f n B:=⟨hs,hpos,hdb⟩;have b1:=k.b1;refine⟨hdef,.inl fun a ha=>aA (hb a ha) ?_,rfl,?_,by omega,fun a b ha hb=>(ht a b ha hb).mono (by omega)⟩
 ·unfold cN;exact aA (Nat.le_add_right B (B*B)) (Nat.le_mul_of_pos_right _ (Nat.pow_pos (by omega)))
 simp only[Nat.pow_zero,Nat.one_mul];exact aA (JT hdef n (ae _)) (aD (by omega) hn)
theorem RedI.start (hn1:1<=n) (hn:n<=8) (hs:SymF f n) (hp:Hi f n) (hb: ∀a b,(f a b).natAbs<=9) (ht: ∀a b,a<n->b<n->Sz (t a b) 1):RedI 8 bB 41 n f f t 0 0:=
 RedI.start_ S2 hn hs hp (fun k hk=>Rx hb (by omega)) (fun a _=>aA (hb a a) (by decide)) ht
end
end
theorem zb {w w':World} (h:Ext w w'):Keep (fun _=>False) w w':=⟨h.os,h.tape,h.output,h.size,fun k hk _=>h.block k hk⟩
theorem IZ {w w':World} (h:Keep (fun _=>False) w w'):Ext w w':=⟨h.os,h.tape,h.output,h.size,fun k hk=>h.block k hk (fun h=>h)⟩
theorem DT {w w':World} {X:Nat->Prop} (h:Ext w w') (hX: ∀b,X b->b<w.heap.size):Inv w (fun _=>False) X (famH 0 []) (fun _ _=>none) w':=by
 have e: ∀a,famH 0 [] a=[]:=fun a=>by unfold famH;split<;>rfl
 refine⟨zb h,fun a r o ho=>?_,fun a r a' r' o o' b c c' ho=>?_,fun a r o b c ho=>?_,fun b hb=>Nat.lt_of_lt_of_le (hX b hb) h.size,fun a r o ho=>?_⟩<;>(rw[e]at ho;simp at ho)
theorem jW {P:Program} {f:FuncId} {args:List TV} {r:TV} (hc:callable P f=true) (h: ∀(X:Nat->Prop) (w:World) (vs:Array Value),(∀b,X b->b<w.heap.size)->vs.size=args.length->
  (∀(j:Nat) t,args[j]?=some t-> ∃v:Value,vs[j]?=some v/\t.rel (fun _ _=>none) (fun _=>[]) X w v)->Calls P f vs w fun e w'=> ∃v,e= .returned v/\(∀ρ H Y,r.rel ρ H Y w' v)/\Ext w w'):CallC P f args ⟨[],r⟩:=
 ⟨hc,fun X w vs hX hvs ha=>(h X w vs hX hvs ha).mono fun e w' ⟨v,h1,h2,h3⟩=>⟨v,h1,fun _ _=>none,DT h3 hX,h2 _ _ _⟩⟩
theorem CallC.calls {P:Program} {f:FuncId} {args:List TV} {r:TV} (h:CallC P f args ⟨[],r⟩) {w:World} {vs:Array Value} (hvs:vs.size=args.length)
  (ha: ∀(j:Nat) t,args[j]?=some t-> ∃v:Value,vs[j]?=some v/\t.rel (fun _ _=>none) (fun _=>[]) (fun _=>False) w v):Calls P f vs w fun e w'=> ∃v,e= .returned v/\(∃ρ H X,r.rel ρ H X w' v)/\Ext w w':=
 (h.2 (fun _=>False) w vs (fun b h=>h.elim) hvs ha).mono fun e w' ⟨v,h1,ρ,h2,h3⟩=>⟨v,h1,⟨_,_,_,h3⟩,IZ h2.keep⟩
theorem Ac {ρ:Rho} {H:OH} {X:Nat->Prop} {w:World} (b:Bool):(TV.raw (.bool b)).rel ρ H X w (.bool b):=bX.raw _ rfl
theorem xJ {X:Nat->Prop} {w:World} {u v:Value} (h:bX X w (.raw u) v):v=u:=by cases h;rfl
theorem xK {X:Nat->Prop} {w:World} {l:List Int} {v:Value} (h:bX X w (.sl (ls fI l)) v): ∃A c,v= .slice A l.length c/\l.length<=c/\l.length<=9223372036854775807/\RdI .i64 w A l:=by
 generalize hx:PV.sl (ls fI l)=x at h;cases h with
 |raw v h=>cases hx
 |ptr b off cs f hX hb hc hr=>cases hx
 |nil a c=>
  injection hx with hx
  have hl:l=[]:=by simpa[ls] using hx
  subst hl;exact⟨a,c,rfl,Nat.zero_le _,by simp,RdI.nil _ _ _⟩
 |sl b off es cap xs f hX hb hes hcap hm hc hr=>
  injection hx with hx
  subst hx;rw[eH]at hcap hm;refine⟨some ⟨b,off,none⟩,cap,by rw[eH],hcap,hm,fun hne=>⟨b,off,rfl,fun i x hx=>?_⟩⟩;rw[az]at hx;obtain⟨z,hz,rfl⟩:=Option.map_eq_some_iff.1 hx;have h1:(ls fI l)[i]?=some (fI z):=by rw[fY,hz];rfl
  have he:es=1:=by rw[<- hes _ (List.mem_of_getElem? h1)];rfl
  subst he;have h2:=hc i _ 0 _ h1 rfl;have h3:=xJ (hr i _ 0 _ h1 rfl);rw[h3,Nat.mul_one,Nat.add_zero]at h2;exact h2
theorem o9 {X:Nat->Prop} {w:World} {M:List (List Int)} {v:Value} (h:bX X w (.sl (ls (fR fI) M)) v): ∃A c,v= .slice A M.length c/\M.length<=c/\M.length<=9223372036854775807/\pC .i64 w A M:=by
 generalize hx:PV.sl (ls (fR fI) M)=x at h;cases h with
 |raw v h=>cases hx
 |ptr b off cs f hX hb hc hr=>cases hx
 |nil a c=>
  injection hx with hx
  have hl:M=[]:=by simpa[ls] using hx
  subst hl;exact⟨a,c,rfl,Nat.zero_le _,by simp,pC.nil _ _ _⟩
 |sl b off es cap xs f hX hb hes hcap hm hc hr=>
  injection hx with hx
  subst hx;rw[eH]at hcap hm;refine⟨some ⟨b,off,none⟩,cap,by rw[eH],hcap,hm,fun hne=>⟨b,off,rfl,fun i r hi=>?_⟩⟩;have h1:(ls (fR fI) M)[i]?=some (fR fI r):=by rw[fY,hi];rfl
  have he:es=1:=by rw[<- hes _ (List.mem_of_getElem? h1)];rfl
  subst he;have h2:=hc i _ 0 _ h1 rfl;have h3:=xK (hr i _ 0 _ h1 rfl);rw[Nat.mul_one,Nat.add_zero]at h2;exact⟨_,h2,h3⟩
/-! The program's functions. -/
theorem rX {args:List TV} {vs:Array Value} {X:Nat->Prop} {w:World} (h: ∀(j:Nat) t,args[j]?=some t-> ∃v:Value,vs[j]?=some v/\t.rel (fun _ _=>none) (fun _=>[]) X w v) {j:Nat} {x:PV} (hj:args[j]?=some (.one (.p x))): ∃v:Value,vs[j]?=some v/\bX X w x v:=h j _ hj
abbrev NB (b:Nat):TV:= .raw (.pointer (some ⟨b,0,none⟩))
def I8 (L:List Int):Prop:= ∀z∈L,-128<=z/\z<=127
theorem I8.getD {L:List Int} (h:I8 L) (a:Nat): -128<=L.getD a 0/\L.getD a 0<=127:=by
 rw[List.getD_eq_getElem?_getD];cases hx:L[a]? with
 |none=>simp
 |some z=>exact h z (List.mem_of_getElem? hx)
section
def Gh (r:List Int):OObj:=⟨2,1,lc fI r⟩
abbrev kI (d n c i:Nat) (f:FF):List OObj:=⟨35,1,mH d (af i c)++af (n-i) zK⟩::(mat i c f).map Gh
abbrev R9 (d n c:Nat) (f:FF):List OObj:=⟨35,1,mH d (af n c)⟩::(mat n c f).map Gh
theorem IW (d n c:Nat) (f:FF):kI d n c n f=R9 d n c f:=by simp[kI,R9]
theorem IX {i n:Nat} (d c:Nat) (h:i<=n):(mH d (af i c)++af (n-i) zK).length=n:=by simp[dA];omega
theorem PK {i k n:Nat} (d c:Nat) (h:k<i):(mH d (af i c)++af (n-i) zK)[k]?=some [.sl d (k+1) 0 c]:=by
 rw[List.getElem?_append_left (by simp[dA];exact h),mI d c h]
theorem PL {i n:Nat} (d c:Nat) (h:i<n):(mH d (af i c)++af (n-i) zK)[i]?=some zK:=by
 rw[List.getElem?_append_right (by simp[dA]),dA,List.length_replicate,Nat.sub_self,List.getElem?_replicate,if_pos (by omega)]
theorem s7 {n i:Nat} (c:Nat) (f:FF) (h:i<n):((mat n c f).map Gh)[i]?=some ⟨2,1,lc fI (be c (f i))⟩:=by
 rw[az,b6 _ _ h];rfl
theorem Jy {n i j:Nat} (c:Nat) (f:FF) (v:Int):((mat n c f).map Gh).set i ⟨2,1,(lc fI (be c (f i))).set j [.p (.raw (.int .i64 v))]⟩=(mat n c (upd f i j v)).map Gh:=by
 have e:(⟨2,1,(lc fI (be c (f i))).set j [.p (.raw (.int .i64 v))]⟩:OObj)=Gh (be c fun b=>if b=j then v else f i b):=by
  rw[<- ke,Gh,<- pT];rfl
 rw[e,<- List.map_set,D6];rfl
theorem sZ {n c:Nat} {f g:FF} (h: ∀i j,i<n->j<c->f i j=g i j):(mat n c f).map Gh=(mat n c g).map Gh:=by rw[gK h]
theorem Mm {i n c:Nat} (d:Nat) (f:FF) (hi:i<n) (h0: ∀j,j<c->f i j=0):
  (⟨35,1,(mH d (af i c)++af (n-i) zK).set i [.sl d (i+1) 0 c]⟩::((mat i c f).map Gh++[⟨2,1,af c [.raw (.int .i64 0)]⟩]):List OObj)=kI d n c (i+1) f:=by
 have e1:(mH d (af i c)++af (n-i) zK).set i [.sl d (i+1) 0 c]=mH d (af (i+1) c)++af (n-(i+1)) zK:=by
  rw[List.set_append_right _ _ (by simp[dA]),dA,List.length_replicate,Nat.sub_self,List.replicate_succ' (n:=i),At,List.length_replicate,List.append_assoc]
  congr 1
  rw[show n-i=n-(i+1)+1 by omega,List.replicate_succ];rfl
 have e2:(⟨2,1,af c [.raw (.int .i64 0)]⟩:OObj)=Gh (be c (f i)):=by
  rw[Gh]
  congr 1
  apply List.ext_getElem?;intro j;rw[List.getElem?_replicate,xn];by_cases hj:j<c
  ·rw[if_pos hj,aZ _ hj,h0 j hj];rfl
  rw[if_neg hj,au (by rw[aW];omega)];rfl
 rw[e1,e2,kI,Jm,List.map_append];rfl
theorem IH {H:OH} {d n c:Nat} {f:FF} (h:H d=R9 d n c f):rc H d:=fun r o ho e he x hx=>by
 rw[h]at ho;cases r with
 |succ r=>
  rw[List.getElem?_cons_succ,az]at ho;obtain⟨l,hl,rfl⟩:=Option.map_eq_some_iff.1 ho;exact .inl (bz _ _ l e he x hx)
 |zero=>
  simp at ho;subst ho;simp only at he;obtain⟨k,hk⟩:=List.mem_iff_getElem?.1 he;have hkn:k<n:=by
   have:=(List.getElem?_eq_some_iff.1 hk).1;rwa[dA,List.length_replicate]at this
  rw[mI d c hkn]at hk;injection hk with hk
  subst hk;simp at hx;subst hx;refine .inr ⟨k+1,0,c,Gh (be c (f k)),rfl,?_,bz _ _ _⟩;rw[h,List.getElem?_cons_succ,az,b6 _ _ hkn];rfl
theorem SA {H:OH} {d n c:Nat} {f:FF} (h:H d=R9 d n c f):eZ H d (.one (.sl d 0 0 n))=ch (mat n c f):=by
 have e:((mH d (af n c)).map (List.map (kV H d)))=ls (fR fI) (mat n c f):=by
  apply List.ext_getElem?;intro i;rw[az,fY];by_cases hi:i<n
  ·rw[mI d c hi,b6 _ _ hi];simp only[Option.map_some,List.map_cons,List.map_nil,kV,h,List.getElem?_cons_succ,s7 _ _ hi,fR,gQ,xm,mr];rw[List.drop_zero,List.take_of_length_le (by rw[aW];omega)]
  rw[au (by rw[dA,List.length_replicate];omega),au (by rw[bV];omega)];rfl
 simp only[eZ,dI,if_true,h,List.getElem?_cons_zero];rw[List.drop_zero,List.take_of_length_le (by rw[dA,List.length_replicate];omega),e]
section
variable {P:Program} {fu:FuncId} {args:List TV} {n c:Nat} {g:FF}
end
end
theorem QP (f:FF) (i j:Nat) (v:Int):upd f i j v i j=v:=by simp[upd]
theorem QQ {f:FF} {i j a b:Nat} {v:Int} (h:a≠i\/b≠j):upd f i j v a b=f a b:=by
 unfold upd;by_cases h1:a=i
 ·subst h1;have h2:b≠j:=by rcases h with h|h;exact absurd rfl h;exact h
  simp[h2]
 simp[h1]
def GoodP (n:Nat) (f:FF):Prop:=SymF f n/\Hi f n/\sn n f<=10000
theorem G5 (f:FF) (i j:Nat) (v:Int) (a b:Nat):upd f i j v a b=v\/upd f i j v a b=f a b:=by
 by_cases h:a=i/\b=j
 ·obtain⟨rfl,rfl⟩:=h;exact .inl (QP f a b v)
 exact .inr (QQ (by omega))
def Q8 (f:FF):Prop:= ∀a b,-9<=f a b/\f a b<=9
theorem Q8.i64 {f:FF} (h:Q8 f) (a b:Nat):I64 (f a b):=by have:=h a b;exact⟨by omega,by omega⟩
theorem Q8.upd {f:FF} (h:Q8 f) {i j:Nat} {v:Int} (h1: -9<=v) (h2:v<=9):Q8 (Go.Proofs.YtalmoejhjceflaaGreat.upd f i j v):=fun a b=>by
 rcases G5 f i j v a b with e|e
 ·rw[e];exact⟨h1,h2⟩
 rw[e];exact h a b
theorem M3 {N B S Z n:Nat} {f0 f t h T:FF} (kb:G6 N B S Z) (hn1:1<=n) (hn:n<=N) (hd:dk f0 n<=10000) (hr:QV n f t h T): ∀s adds,RedI N B Z n f0 f t s adds->RedR h n:=by
 induction hr with
 |done f t hc=>exact fun s adds hI=>hI.red hn1 hd hc
 |step f t h T c hc _ ih=>
  intro s adds hI;cases c with
  |add i j=>exact ih _ _ (hI.add kb hn hc).1
  |swp m=>exact ih _ _ (hI.swap kb hn hc)
structure Ly (N B Z n:Nat) (f:FF):Prop where
 good:GoodP n f
 sz: ∀i j,i<n->j<n->Sz (f i j) 400
 st:RedI N B Z n f f idF 0 0
theorem Ly.dk {N B S Z n:Nat} {f:FF} (kb:G6 N B S Z) (k:Ly N B Z n f) (hn1:1<=n):dk f n<=10000:=by
 obtain⟨hs,hp,hd⟩:=k.good;have:=(xE hp (n-1) (by omega)).2;rw[show n-1+1=n by omega]at this;omega
theorem Ly.ex {N B S Z n:Nat} {f:FF} (kb:G6 N B S Z) (k:Ly N B Z n f) (hn1:1<=n) (hn:n<=N): ∃h T,RedR h n/\QV n f idF h T:=by
 obtain⟨h,T,hr⟩:=nD (f0:=f) kb hn _ f idF 0 0 (ae _) k.st;exact⟨h,T,M3 kb hn1 hn (k.dk kb hn1) hr 0 0 k.st,hr⟩
section
open Go.ChangeShapes Go.WideShapes Go.ChangeAt Go.RowKit
theorem Rq {w:World}: ∀{ts:List TV} {vs:List Value},ts.length=vs.length->(∀(j:Nat) t v,ts[j]?=some t->vs[j]?=some v->t.rel (fun _ _=>none) (fun _=>[]) (fun _=>False) w v)->
  ∀(j:Nat) t,ts[j]?=some t-> ∃v:Value,vs.toArray[j]?=some v/\t.rel (fun _ _=>none) (fun _=>[]) (fun _=>False) w v:=fun{ts vs} hl h j t hj=>by
 have hlt:=(List.getElem?_eq_some_iff.1 hj).1;obtain⟨v,hv⟩: ∃v,vs[j]?=some v:=⟨_,List.getElem?_eq_getElem (by omega)⟩;exact⟨v,by simpa using hv,h j t v hj hv⟩
end
section
theorem dm (c:Int) (F:Nat->Int): ∀k,cg (fun p=>c*F p) k=c*cg F k
 |0=>by simp[cg]
 |k+1=>by rw[cg,cg,dm c F k];grind
theorem uh (c:Int) (F:Nat->Int) (k:Nat):cg (fun p=>F p*c) k=cg F k*c:=by
 rw[Int.mul_comm,<- dm];exact aT k fun p _=>Int.mul_comm _ _
theorem pm (F:FF) (m:Nat): ∀n,cg (fun i=>cg (F i) m) n=cg (fun j=>cg (fun i=>F i j) n) m
 |0=>by simp only[cg];exact(dx m).symm
 |n+1=>by rw[cg,pm F m n,<- jA];rfl
def BF (n:Nat) (f:FF) (x y:Nat->Int):Int:=cg (fun i=>x i*cg (fun j=>f i j*y j) n) n
variable {n:Nat}
theorem eE {f f':FF} {x x' y y':Nat->Int} (hf: ∀i j,i<n->j<n->f i j=f' i j) (hx: ∀i,i<n->x i=x' i) (hy: ∀i,i<n->y i=y' i):BF n f x y=BF n f' x' y':=
 aT n fun i hi=>by rw[hx i hi,aT n fun j hj=>by rw[hf i j hi hj,hy j hj]]
theorem jf (f:FF) (x x' y:Nat->Int) (c:Int):BF n f (fun i=>x i+c*x' i) y=BF n f x y+c*BF n f x' y:=by
 unfold BF;rw[<- dm,<- jA];exact aT n fun i _=>by grind
theorem gO (f:FF) (x y y':Nat->Int) (c:Int):BF n f x (fun i=>y i+c*y' i)=BF n f x y+c*BF n f x y':=by
 unfold BF;rw[<- dm,<- jA];refine aT n fun i _=>?_
 rw[aT n (G:=fun j=>f i j*y j+c*(f i j*y' j)) (fun j _=>by grind),jA,dm];grind
theorem rk (f g:FF) (x y:Nat->Int) (a b:Int):BF n (fun i j=>a*f i j+b*g i j) x y=a*BF n f x y+b*BF n g x y:=by
 unfold BF;rw[<- dm,<- dm,<- jA];refine aT n fun i _=>?_
 rw[aT n (G:=fun j=>a*(f i j*y j)+b*(g i j*y j)) (fun j _=>by grind),jA,dm,dm];grind
theorem Dc (u v x y:Nat->Int):BF n (fun i j=>u i*v j) x y=cg (fun i=>x i*u i) n*cg (fun j=>v j*y j) n:=by
 unfold BF;rw[<- uh];refine aT n fun i _=>?_
 rw[aT n (G:=fun j=>u i*(v j*y j)) (fun j _=>by grind),dm];grind
theorem rE {f:FF} (hs:SymF f n) (x y:Nat->Int):BF n f x y=BF n f y x:=by
 unfold BF;rw[aT n (G:=fun i=>cg (fun j=>x i*f i j*y j) n) (fun i _=>by rw[<- dm];exact aT n fun j _=>by grind),
  aT n (F:=fun i=>y i*_) (G:=fun i=>cg (fun j=>x j*f j i*y i) n) (fun i hi=>by rw[<- dm];exact aT n fun j hj=>by rw[hs i hi j hj];grind)]
 exact pm _ _ _
theorem gM {f:FF} (hs:SymF f n) (hp: ∀k,k<n->0<dk f (k+1)) (x:Nat->Int): ∀m k,m+k=n->0<=BF n (bk f k) x x/\(BF n (bk f k) x x=0-> ∀i,k<=i->i<n->x i=0)
 |0,k,h=>by
  obtain rfl:k=n:=by omega
  refine⟨?_,fun _ i h1 h2=>by omega⟩;have:BF k (bk f k) x x=0:=by
   unfold BF;rw[aT k (G:=fun _=>0) (fun i hi=>by rw[aT k (G:=fun _=>0) (fun j _=>by rw[iA f hi,Int.zero_mul]),dx,Int.mul_zero]),dx]
  omega
 |m+1,k,h=>by
  obtain⟨h1,h2⟩:=gM hs hp x m (k+1) (by omega);have hne: ∀t,t<n->dk f (t+1)≠0:=fun t ht=>by have:=hp t ht;omega
  have hd:0<dk f k:=gG fun t ht=>hp t (by omega)
  have hd1:=hp k (by omega);have key:dk f k*BF n (bk f (k+1)) x x=dk f (k+1)*BF n (bk f k) x x-cg (fun j=>bk f k k j*x j) n*cg (fun j=>bk f k k j*x j) n:=by
   have e0:dk f k*BF n (bk f (k+1)) x x=BF n (fun i j=>dk f k*bk f (k+1) i j+0*bk f k i j) x x:=by rw[rk];omega
   rw[e0,eE (f':=fun i j=>dk f (k+1)*bk f k i j+(-1)*(bk f k k i*bk f k k j)) (fun i j hi hj=>by
    have:=sylv f k (fun t ht=>hne t (by omega)) i j;have e:=ip hs k (by omega) (fun t ht=>hne t (by omega)) i k hi (by omega);rw[e]at this;omega) (fun _ _=>rfl) (fun _ _=>rfl),rk,Dc,aT n (F:=fun i=>x i*bk f k k i) (G:=fun j=>bk f k k j*x j) (fun i _=>Int.mul_comm _ _)]
   omega
  have hsq:0<=cg (fun j=>bk f k k j*x j) n*cg (fun j=>bk f k k j*x j) n:=by
   rcases Int.le_total 0 (cg (fun j=>bk f k k j*x j) n)with h|h
   ·exact Int.mul_nonneg h h
   exact Int.mul_nonneg_of_nonpos_of_nonpos h h
  have hpr:=Int.mul_nonneg (Int.le_of_lt hd) h1;have hge:0<=dk f (k+1)*BF n (bk f k) x x:=by omega
  refine⟨?_,fun hz=>?_⟩
  ·rcases Int.lt_or_le (BF n (bk f k) x x) 0 with hl|hl
   ·have:=Int.mul_neg_of_pos_of_neg hd1 hl;omega
   exact hl
  rw[hz,Int.mul_zero]at key;have z1:dk f k*BF n (bk f (k+1)) x x=0:=by omega
  have z2:cg (fun j=>bk f k k j*x j) n*cg (fun j=>bk f k k j*x j) n=0:=by omega
  have z3:BF n (bk f (k+1)) x x=0:=by
   rcases Int.mul_eq_zero.1 z1 with h|h
   ·omega
   exact h
  have z4:cg (fun j=>bk f k k j*x j) n=0:=by
   rcases Int.mul_eq_zero.1 z2 with h|h<;>exact h
  have hx:=h2 z3;rw[iE (a:=k) (by omega) (fun p hpn hpk=>by
   by_cases hlt:p<k
   ·rw[wU hs hne (by omega) hlt (by omega),Int.zero_mul]
   rw[hx p (by omega) hpn,Int.mul_zero])]at z4
  rw[bT]at hd1;intro i hi hin;by_cases e:i=k
  ·subst e;rcases Int.mul_eq_zero.1 z4 with h|h
   ·omega
   exact h
  exact hx i (by omega) hin
theorem He {f:FF} (hr:RedR f n) (x:Nat->Int):0<=BF n f x x/\(BF n f x x=0↔ ∀i,i<n->x i=0):=by
 have h:=gM hr.1 hr.2.1 x n 0 rfl;have e:BF n (bk f 0) x x=BF n f x x:=eE (fun i j _ _=>cp f i j) (fun _ _=>rfl) (fun _ _=>rfl);rw[e]at h;refine⟨h.1,fun hz i hi=>h.2 hz i (by omega) hi,fun h0=>?_⟩;unfold BF;rw[aT n (G:=fun _=>0) (fun i hi=>by rw[h0 i hi,Int.zero_mul]),dx]
theorem schwarz {f:FF} (hr:RedR f n) (x y:Nat->Int):BF n f x y*BF n f x y<=BF n f x x*BF n f y y:=by
 have hs:=rE hr.1 x y;obtain⟨h1,h2⟩:=He hr y;obtain⟨q,hq⟩: ∃q,q=BF n f x y:=⟨_,rfl⟩;obtain⟨o,ho⟩: ∃o,o=BF n f y y:=⟨_,rfl⟩;obtain⟨N,hN⟩: ∃N,N=BF n f x x:=⟨_,rfl⟩;have hpos:=(He hr (fun i=>(0+o*x i)+(-q)*y i)).1;have e:BF n f (fun i=>(0+o*x i)+(-q)*y i) (fun i=>(0+o*x i)+(-q)*y i)=o*(o*N-q*q):=by
  have ez: ∀u,BF n f (fun _=>0) u=0:=fun u=>by
   unfold BF;rw[aT n (G:=fun _=>0) (fun i _=>Int.zero_mul _),dx]
  have ez': ∀u,BF n f u (fun _=>0)=0:=fun u=>by rw[rE hr.1,ez]
  rw[jf f (fun i=>0+o*x i) y,gO f (fun i=>0+o*x i) (fun i=>0+o*x i) y,gO f y (fun i=>0+o*x i) y,
   jf f (fun _=>0) x,jf f (fun _=>0) x,gO f x (fun _=>0) x,gO f y (fun _=>0) x,ez,ez,ez',ez',<- hs,<- hq,<- ho,<- hN]
  grind
 rw[e]at hpos;rw[<- hq,<- ho,<- hN];rcases Int.lt_or_le 0 o with h|h
 ·have:0<=o*N-q*q:=by
   rcases Int.lt_or_le (o*N-q*q) 0 with hl|hl
   ·have:=Int.mul_neg_of_pos_of_neg h hl;omega
   exact hl
  have:o*N=N*o:=Int.mul_comm _ _;omega
 have o0:o=0:=by omega
 have hy:=h2.1 (ho▸o0);have q0:q=0:=by
  rw[hq,hs];unfold BF;rw[aT n (G:=fun _=>0) (fun i hi=>by rw[hy i hi,Int.zero_mul]),dx]
 rw[o0,q0];omega
end
section
def PD (f:FF) (n:Nat):Prop:=SymF f n/\ ∀k,k<n->0<dk f (k+1)
theorem RedR.pd {f:FF} {n:Nat} (h:RedR f n):PD f n:=⟨h.1,h.2.1⟩
theorem PD.det {f:FF} {n:Nat} (h:PD f n):0<dk f n:=by
 cases n with
 |zero=>rw[cj];omega
 |succ n=>exact h.2 n (by omega)
variable {n:Nat}
theorem kn {f:FF} {x y:Nat->Int} (h0: ∀i,i<n->x i=0):BF n f x y=0:=by
 unfold BF;rw[aT n (G:=fun _=>0) (fun i hi=>by rw[h0 i hi,Int.zero_mul]),dx]
theorem PD.pos {f:FF} (hr:PD f n) (x:Nat->Int):0<=BF n f x x/\(BF n f x x=0↔ ∀i,i<n->x i=0):=by
 have h:=gM hr.1 hr.2 x n 0 rfl;have e:BF n (bk f 0) x x=BF n f x x:=eE (fun i j _ _=>cp f i j) (fun _ _=>rfl) (fun _ _=>rfl);rw[e]at h;exact⟨h.1,fun hz i hi=>h.2 hz i (by omega) hi,fun h0=>kn h0⟩
theorem PD.schwarz {f:FF} (hr:PD f n) (x y:Nat->Int):BF n f x y*BF n f x y<=BF n f x x*BF n f y y:=by
 have hs:=rE hr.1 x y;obtain⟨h1,h2⟩:=hr.pos y;obtain⟨q,hq⟩: ∃q,q=BF n f x y:=⟨_,rfl⟩;obtain⟨o,ho⟩: ∃o,o=BF n f y y:=⟨_,rfl⟩;obtain⟨N,hN⟩: ∃N,N=BF n f x x:=⟨_,rfl⟩;have hpos:=(hr.pos (fun i=>(0+o*x i)+(-q)*y i)).1;have e:BF n f (fun i=>(0+o*x i)+(-q)*y i) (fun i=>(0+o*x i)+(-q)*y i)=o*(o*N-q*q):=by
  have ez: ∀u,BF n f (fun _=>0) u=0:=fun u=>kn fun _ _=>rfl
  have ez': ∀u,BF n f u (fun _=>0)=0:=fun u=>by rw[rE hr.1,ez]
  rw[jf f (fun i=>0+o*x i) y,gO f (fun i=>0+o*x i) (fun i=>0+o*x i) y,gO f y (fun i=>0+o*x i) y,
   jf f (fun _=>0) x,jf f (fun _=>0) x,gO f x (fun _=>0) x,gO f y (fun _=>0) x,ez,ez,ez',ez',<- hs,<- hq,<- ho,<- hN]
  grind
 rw[e]at hpos;rw[<- hq,<- ho,<- hN];rw[<- ho]at h1 h2;rcases Int.lt_or_le 0 o with h|h
 ·rcases Int.lt_or_le (o*N-q*q) 0 with hl|hl
  ·have:=Int.mul_neg_of_pos_of_neg h hl;omega
  have e2:N*o=o*N:=Int.mul_comm _ _;omega
 have ho0:o=0:=by omega
 have hy:=h2.1 ho0;have hq0:q=0:=by rw[hq,hs];exact kn hy
 rw[hq0,ho0];simp
/-! The column of cofactors. -/
def eC (i:Nat):Nat->Int:=fun r=>if r=i then 1 else 0
def je (f:FF) (n j:Nat):Nat->Int:=fun i=>dk (dq f j (eC i)) n
theorem Ql (S:Nat->Int) (m r:Nat):cg (fun i=>S i*eC i r) m=if r<m then S r else 0:=by
 induction m with
 |zero=>simp[cg]
 |succ m ih=>
  rw[cg,ih];unfold eC;by_cases h:r=m
  ·subst h;simp
  have:r<m+1↔r<m:=by omega
  simp[h,this]
theorem qC {f:FF} {j:Nat} (hj:j<n) (S:Nat->Int): ∀m,dk (dq f j (fun r=>cg (fun i=>S i*eC i r) m)) n=cg (fun i=>S i*je f n j i) m
 |0=>DG hj fun i _=>rfl
 |m+1=>by
  have h:=pN (R:=f) hj 1 (S m) (fun r=>cg (fun i=>S i*eC i r) m) (eC m);rw[qC hj S m]at h;have e:(fun r=>cg (fun i=>S i*eC i r) (m+1))=fun r=>1*cg (fun i=>S i*eC i r) m+S m*eC m r:=by
   funext r;rw[cg,Int.one_mul]
  rw[e,h,cg,Int.one_mul];rfl
theorem L5 {f:FF} {j:Nat} (hj:j<n) (S:Nat->Int):dk (dq f j S) n=cg (fun i=>S i*je f n j i) n:=by
 rw[<- qC hj S n];refine ot fun r c hr _=>?_
 unfold dq;split
 ·show S r=cg (fun i=>S i*eC i r) n;rw[Ql,if_pos hr]
 rfl
theorem Ds {f:FF} {j k:Nat} (hj:j<n) (hk:k<n):cg (fun i=>f i k*je f n j i) n=if k=j then dk f n else 0:=by
 rw[<- L5 hj fun i=>f i k];split
 ·rename_i h;subst h;rw[mm]
 rename_i h;exact ss hj hk (Ne.symm h)
theorem OF {f:FF} (hs:SymF f n) {j:Nat} (hj:j<n) (x:Nat->Int):BF n f x (je f n j)=x j*dk f n:=by
 unfold BF;rw[aT n (G:=fun i=>x i*(if i=j then dk f n else 0)) (fun i hi=>by
  rw[<- Ds hj hi]
  congr 1
  exact aT n fun l hl=>by rw[hs i hi l hl])]
 rw[iE hj (fun p _ hne=>by rw[if_neg hne,Int.mul_zero]),if_pos rfl]
def Io (f:FF) (j m:Nat):Nat->Nat->Int:=fun i l=>if l=j then eC j i else if i=j/\l<m then 0 else f i l
theorem Ip {f:FF} {j:Nat} (hj:j<n): ∀m,m<=n->dk (Io f j m) n=je f n j j
 |0,_=>by
  unfold je
  congr 1
  funext i l;unfold Io dq;split
  ·rfl
  rw[if_neg (by omega)]
 |m+1,hm=>by
  rw[<- Ip hj m (by omega)];by_cases h:m=j
  ·congr 1
   funext i l;unfold Io;by_cases hl:l=j
   ·rw[if_pos hl,if_pos hl]
   rw[if_neg hl,if_neg hl];have:(i=j/\l<m+1)↔(i=j/\l<m):=by omega
   simp only[this]
  have h1:=mn (R:=Io f j m) (n:=n) (a:=m) (b:=j) (by omega) hj h (-(Io f j m j m));rw[<- h1]
  congr 1
  funext i l;unfold dq;by_cases hl:l=m
  ·subst hl;rw[if_pos rfl];unfold Io eC;by_cases hi:i=j
   ·subst hi;simp[h]<;>omega
   simp[h,hi]
  rw[if_neg hl];unfold Io;split
  ·rfl
  have:(i=j/\l<m+1)↔(i=j/\l<m):=by omega
  simp only[this]
theorem yG (f:FF) (k:Nat):je f (k+1) k k=dk f k:=by
 rw[<- Ip (by omega) (k+1) (ae _),bT,bk,dc,mp (pK k) _ (fun c hc=>by
  have:=jI hc;unfold Io;rw[if_neg (by omega),if_pos ⟨rfl,by omega⟩])]
 have e:om (Io f k (k+1)) k (pK k)=dk f k:=mA fun i hi c hc=>by
  have:=jI hc;unfold Io;rw[if_neg (by omega),if_neg (by omega)]
 rw[e];unfold Io eC
 simp
theorem F6 {f:FF} (hs:SymF f n) (hp: ∀x:Nat->Int,(∃i,i<n/\x i≠0)->0<BF n f x x):PD f n:=by
 refine⟨hs,fun k hk=>?_⟩;have go: ∀k,k<=n->0<dk f k:=fun k=>by
  induction k with
  |zero=>intro _;rw[cj];omega
  |succ k ih=>
   intro hk;have h0:=ih (by omega);have hsk:SymF f (k+1):=fun i hi j hj=>hs i (by omega) j (by omega)
   have h1:=OF (n:=k+1) hsk (j:=k) (by omega) (je f (k+1) k);rw[yG]at h1;have h2:=hp (fun i=>if i<k+1 then je f (k+1) k i else 0) ⟨k,by omega,by simp[yG];omega⟩;have e:BF n f (fun i=>if i<k+1 then je f (k+1) k i else 0) (fun i=>if i<k+1 then je f (k+1) k i else 0)=BF (k+1) f (je f (k+1) k) (je f (k+1) k):=by
    have ext: ∀(F:Nat->Int) (m:Nat),cg (fun i=>if i<k+1 then F i else 0) (k+1+m)=cg F (k+1):=fun F m=>by
     induction m with
     |zero=>exact aT _ fun p hp=>if_pos hp
     |succ m ihm=>rw[<- Nat.add_assoc,cg,ihm,if_neg (by omega)];omega
    obtain⟨m,rfl⟩: ∃m,n=k+1+m:=⟨n-(k+1),by omega⟩;unfold BF;rw[<- ext (fun i=>je f (k+1) k i*cg (fun j=>f i j*je f (k+1) k j) (k+1)) m];refine aT _ fun i _=>?_
    show(if i<k+1 then je f (k+1) k i else 0)*cg (fun j=>f i j*(if j<k+1 then je f (k+1) k j else 0)) _=_;by_cases hi:i<k+1
    ·rw[if_pos hi,if_pos hi,<- ext (fun j=>f i j*je f (k+1) k j) m]
     congr 1
     exact aT _ fun j _=>by
      by_cases hj:j<k+1
      ·rw[if_pos hj,if_pos hj]
      rw[if_neg hj,if_neg hj,Int.mul_zero]
    rw[if_neg hi,if_neg hi,Int.zero_mul]
   rw[e,h1]at h2;rcases Int.lt_or_le 0 (dk f (k+1))with h|h
   ·exact h
   have:=Int.mul_nonpos_of_nonneg_of_nonpos (Int.le_of_lt h0) h;omega
 exact go (k+1) (by omega)
theorem B8 {t:FF} (hd:dk t n≠0) {x:Nat->Int} (h: ∀i,i<n->cg (fun j=>t i j*x j) n=0): ∀j,j<n->x j=0:=fun j hj=>by
 have h1:cg (fun i=>cg (fun l=>t i l*x l) n*je t n j i) n=0:=by
  rw[aT n (G:=fun _=>0) (fun i hi=>by rw[h i hi,Int.zero_mul]),dx]
 have h2:cg (fun i=>cg (fun l=>t i l*x l) n*je t n j i) n=cg (fun l=>cg (fun i=>t i l*x l*je t n j i) n) n:=by
  rw[<- pm];exact aT n fun i _=>by rw[<- uh]
 have h3:cg (fun l=>cg (fun i=>t i l*x l*je t n j i) n) n=cg (fun l=>x l*(if l=j then dk t n else 0)) n:=
  aT n fun l hl=>by
   rw[<- Ds hj hl,<- dm];exact aT n fun i _=>by grind
 rw[h2,h3,iE hj (fun p _ hne=>by rw[if_neg hne,Int.mul_zero]),if_pos rfl]at h1;rcases Int.mul_eq_zero.1 h1 with h|h
 ·exact h
 exact absurd h hd
/-! Bounds. -/
end
def dg (code j:Nat):Int:=((code/3^j%3:Nat):Int)-1
theorem Rw (code j:Nat): -1<=dg code j/\dg code j<=1:=by
 have:=Nat.mod_lt (code/3^j) (show 0<3 by omega);unfold dg;omega
def xa (i code:Nat):Nat->Int:=fun j=>if j<i then dg code j else if j=i then 1 else 0
def nrm (n:Nat) (f:FF) (x:Nat->Int):Int:=BF n f x x
theorem Ci {n:Nat} {f:FF} {i:Nat} (hi:i<n):nrm n f (eC i)=f i i:=by
 have e: ∀F:Nat->Int,cg (fun j=>F j*eC i j) n=F i:=fun F=>by
  rw[iE hi (fun p _ hne=>by unfold eC;rw[if_neg hne,Int.mul_zero])];unfold eC;rw[if_pos rfl,Int.mul_one]
 unfold nrm BF;rw[aT n (G:=fun k=>f k i*eC i k) (fun k _=>by rw[e (f k)];exact Int.mul_comm _ _),e fun k=>f k i]
def wn (n:Nat) (f:FF) (i:Nat):Nat->Nat->Int
 |0=>eC i
 |k+1=>if nrm n f (xa i k)<nrm n f (wn n f i k)then xa i k else wn n f i k
theorem Kl {n:Nat} {f:FF} {i:Nat} (hi:i<n): ∀k,nrm n f (wn n f i k)<=f i i/\ ∀c,c<k->nrm n f (wn n f i k)<=nrm n f (xa i c)
 |0=>⟨by rw[wn,Ci hi];omega,fun c hc=>by omega⟩
 |k+1=>by
  obtain⟨h1,h2⟩:=Kl (f:=f) hi k;by_cases h:nrm n f (xa i k)<nrm n f (wn n f i k)
  ·rw[show wn n f i (k+1)=xa i k from if_pos h];refine⟨by omega,fun c hc=>?_⟩;by_cases e:c=k
   ·subst e;omega
   have:=h2 c (by omega);omega
  rw[show wn n f i (k+1)=wn n f i k from if_neg h];refine⟨h1,fun c hc=>?_⟩;by_cases e:c=k
  ·subst e;omega
  exact h2 c (by omega)
def Rn (n:Nat) (f:FF) (i:Nat):Prop:= ∃c,c<3^i/\nrm n f (xa i c)<f i i
theorem Qh {n:Nat} {f:FF} {i:Nat} (hi:i<n) (h:Rn n f i):nrm n f (wn n f i (3^i))<f i i:=by
 obtain⟨c,h1,h2⟩:=h;have:=(Kl (f:=f) hi (3^i)).2 c h1;omega
theorem Eo (n:Nat) (f:FF) (i:Nat): ∀k,wn n f i k=eC i\/ ∃c,c<k/\wn n f i k=xa i c
 |0=> .inl rfl
 |k+1=>by
  rw[wn];split
  ·exact .inr ⟨k,by omega,rfl⟩
  rcases Eo n f i k with h|⟨c,hc,h⟩
  ·exact .inl h
  exact .inr ⟨c,by omega,h⟩
theorem Qg (n:Nat) (f:FF) (i k:Nat):wn n f i k i=1/\(∀j,i<j->wn n f i k j=0)/\ ∀j,-1<=wn n f i k j/\wn n f i k j<=1:=by
 rcases Eo n f i k with h|⟨c,_,h⟩<;>rw[h]
 ·refine⟨by simp[eC],fun j hj=>by unfold eC;rw[if_neg (by omega)],fun j=>by unfold eC;split<;>omega⟩
 refine⟨by simp[xa],fun j hj=>by unfold xa;rw[if_neg (by omega),if_neg (by omega)],fun j=>?_⟩;unfold xa;split
 ·exact Rw c j
 split<;>omega
def SF (s:Nat->Int) (f:FF):Nat->Nat->Int:=fun i j=>s i*s j*f i j
theorem r8 {P:Program} {f:FuncId} {args:List TV} {r:TV} (hc:callable P f=true) (h: ∀(X:Nat->Prop) (w:World) (vs:Array Value),(∀b,X b->b<w.heap.size)->vs.size=args.length->
  (∀(j:Nat) t,args[j]?=some t-> ∃v:Value,vs[j]?=some v/\t.rel (fun _ _=>none) (fun _=>[]) X w v)->Calls P f vs w fun e w'=> ∃v,e= .returned v/\(∀ρ H Y,(∀b,Y b->b<w.heap.size)->r.rel ρ H Y w' v)/\Ext w w'):CallC P f args ⟨[],r⟩:=
 ⟨hc,fun X w vs hX hvs ha=>(h X w vs hX hvs ha).mono fun e w' ⟨v,h1,h2,h3⟩=>⟨v,h1,fun _ _=>none,DT h3 hX,h2 _ _ _ (fun b hb=>by
  rcases hb with hb|⟨a,r,o,c,ho,hr⟩
  ·exact hX b hb
  cases hr)⟩⟩
theorem ff (M:List (List Int)):CallC Tryz.prog 36 [ch M] ⟨[],.raw (.bool (isReducedM M))⟩:=by
 refine jW (by kernel_rfl) fun X w vs hX hvs ha=>?_
 obtain⟨v0,e0,r0⟩:=rX ha (j:=0) rfl;obtain⟨A,c,rfl,hc,hl,hR⟩:=o9 r0;obtain rfl:vs= #[.slice A M.length c]:=by
  apply Array.ext_getElem?;intro j
  match j with
  |0=>exact e0
  |j+1=>rw[Array.getElem?_eq_none (by simp at hvs;omega)];rfl
 refine(jJ A c M w hR hl hc).mono fun e w' ⟨h1,h2⟩=>?_
 exact⟨_,h1,fun _ _ _=>Ac _,h2⟩
theorem Qf (a b:List (List Int)):CallC Tryz.prog 17 [ch a,ch b] ⟨[],.raw (.bool (decide (a=b)))⟩:=by
 refine jW (by kernel_rfl) fun X w vs hX hvs ha=>?_
 obtain⟨v0,e0,r0⟩:=rX ha (j:=0) rfl;obtain⟨v1,e1,r1⟩:=rX ha (j:=1) rfl;obtain⟨A,c,rfl,hc,hl,hA⟩:=o9 r0;obtain⟨B,d,rfl,hd,hlb,hB⟩:=o9 r1;obtain rfl:vs= #[.slice A a.length c,.slice B b.length d]:=by
  apply Array.ext_getElem?;intro j
  match j with
  |0=>exact e0
  |1=>exact e1
  |j+2=>rw[Array.getElem?_eq_none (by simp at hvs;omega)];rfl
 refine(Kc A B c d a b w hA hB hl hlb).mono fun e w' ⟨h1,h2⟩=>?_
 exact⟨_,h1,fun _ _ _=>Ac _,h2⟩
theorem J2 {X:Nat->Prop} {w:World} {l:List Int} {b off c:Nat} (hX: ¬X b) (hb:b<w.heap.size) (hl:l.length<=c) (hm:l.length<=9223372036854775807) (h:RdI .i64 w (some ⟨b,off,none⟩) l):bX X w (.sl (ls fI l)) (.slice (some ⟨b,off,none⟩) l.length c):=by
 have hc: ∀(i:Nat) (z:Int),l[i]?=some z->w.cell? ⟨b,off+i,none⟩=some (.int .i64 z):=fun i z hz=>by
  cases l with
  |nil=>simp at hz
  |cons z0 l0=>
   obtain⟨b',off',h1,hc⟩:=h (by simp);injection h1 with h1
   injection h1 with h1 h2
   subst h1 h2;exact hc i _ (by rw[az,hz];rfl)
 have:=bX.sl (X:=X) (w:=w) b off 1 c (ls fI l) (fun i _=> .int .i64 (l.getD i 0)) hX hb (fun e he=>by
  obtain⟨z,_,rfl⟩:=List.mem_map.1 he;rfl) (by rw[eH];exact hl) (by rw[eH];exact hm) (fun i e j x he hx=>by
  rw[fY]at he;obtain⟨z,hz,rfl⟩:=Option.map_eq_some_iff.1 he;cases j with
  |succ j=>simp[fI]at hx
  |zero=>
   simp only[Nat.mul_one,Nat.add_zero,List.getD_eq_getElem?_getD,hz,Option.getD_some];exact hc i z hz) (fun i e j x he hx=>by
  rw[fY]at he;obtain⟨z,hz,rfl⟩:=Option.map_eq_some_iff.1 he;cases j with
  |succ j=>simp[fI]at hx
  |zero=>
   simp[fI]at hx;subst hx;simp only[List.getD_eq_getElem?_getD,hz,Option.getD_some];exact bX.raw _ rfl)
 rw[eH]at this;exact this
/-! The plain side of Gram. -/
abbrev PC (G:List (List Int)) (b:Bool):TV:= .tup [(false,[.p (.sl (ls (fR fI) G))]),(false,[.p (.raw (.bool b))])]
theorem PF {M:List (List Int)} {x y:List Int} (hM:isReducedM M=true) (hx:uF M.length x=true) (hy:uF M.length y=true):
  fz x (eF M y) x.length=BF M.length (ent M) (fun i=>x.getD i 0) (fun i=>y.getD i 0):=by
 obtain⟨h1,h8,hsq,hr⟩:=(lK M).1 hM;obtain⟨hxl,hxb⟩:=nO.1 hx;obtain⟨hyl,hyb⟩:=nO.1 hy;generalize hn:M.length=n at*
 have eM:M=mat n n (ent M):=by
  apply List.ext_getElem?;intro i;by_cases hi:i<n
  ·rw[b6 _ _ hi];obtain⟨r,hr'⟩:=getElem?_of_lt (show i<M.length by omega);rw[hr'];have hrl:r.length=n:=by
    have:=hsq i (by omega);rw[List.getD_eq_getElem?_getD,hr']at this;simpa[hn] using this
   refine congrArg some ?_;apply List.ext_getElem?;intro j;by_cases hj:j<n
   ·rw[aZ _ hj];obtain⟨z,hz⟩:=getElem?_of_lt (show j<r.length by omega);rw[hz];simp[ent,List.getD_eq_getElem?_getD,hr',hz]
   rw[au (by omega),au (by rw[aW];omega)]
  rw[au (by omega),au (by rw[bV];omega)]
 have er: ∀(x:List Int),x.length=n->x=be n (fun i=>x.getD i 0):=fun x hxl=>by
  apply List.ext_getElem?;intro j;by_cases hj:j<n
  ·rw[aZ _ hj];obtain⟨z,hz⟩:=getElem?_of_lt (show j<x.length by omega);simp[List.getD_eq_getElem?_getD,hz]
  rw[au (by omega),au (by rw[aW];omega)]
 have hM2:isReducedM (mat n n (ent M))=true:=by rw[<- eM];exact hM
 have ex:=er x hxl;have ey:=er y hyl;rw[show eF M y=Ss n n (ent M) y by rw[<- Bm hM2 hyb,<- eM],hxl,Ss];generalize(fun i=>x.getD i 0)=fx at*
 generalize(fun i=>y.getD i 0)=fy at*
 rw[ex,ey,n5 _ _ n (ae _)];exact aT n fun i _=>by rw[n5 _ _ n (ae _)]
theorem Qe {P:Program} {fn:Func} {s:AS} {r:TV} (k:Nat) (hk:s.tmps[k]?=some (.raw (.slice none 0 0))) (hd:s.H 1000=[]) (h:qc P ⟨s.tmps.set k (.one (.p (.sl []))),s.H⟩ fn.results.toList=some r) (hp:noRefTV r=true): ∃s',bW s s'/\qt P fn ⟨[],r⟩ s':=
 ⟨_,LF k hk,j9 hd h hp⟩
theorem EM {P:Program} (m:Nat) (items:List (aH P)) (ow:List Nat) {id:Nat} {ops:Array Oper} {s:AS} {Q:Exit->AS->Prop} (hl:s.tmps.length<=1000000) (hm:m<=ops.toList.length)
  (h: ∀K:AS->Prop,(∀s1,(∃s2,bW s1 s2/\s2.tmps.length<=1000000/\ ∀K:AS->Prop,(∀s',Q .normal s'->K s')->ca P (items.map aH.a) ow (bC ops (ops.toList.drop m) m) (some s2) K)->K s1)->ca P (items.map aH.a) ow (bC ops (ops.toList.take m) 0) (some s) K):bu P (.region id ops false) Q s:=by
 obtain⟨s1,h1,s2,hw,hl2,h2⟩:=bi P (items.map aH.a) ow ops _ 0 s _ (h _ fun _ h=>h);obtain⟨s',h3,h4⟩:=bi P (items.map aH.a) ow ops _ m s2 _ (h2 _ fun _ h=>h);refine qv m _ (aH.ok items) ow h1 hw ?_ h4;rwa[show(ops.toList.take m).length=m by rw[List.length_take];omega]
theorem mq (M:List (List Int)) (r:List Int):lc (fR fI) M++[[.p (.sl (ls fI r))]]=lc (fR fI) (M++[r]):=by simp[lc,fR]
theorem gE (n:Nat) (h t:FF) (a b:Nat):cngF n h t a b=BF n h (fun i=>t i a) (fun j=>t j b):=by
 unfold cngF BF;rw[oM,aT n (G:=fun p=>cg (fun q=>t q a*h q p*t p b) n) (fun p _=>by rw[oM,<- uh];rfl),
  aT n (F:=fun i=>t i a*_) (G:=fun q=>cg (fun p=>t q a*h q p*t p b) n) (fun q _=>by rw[<- dm];exact aT n fun p _=>by grind)]
 exact pm _ _ _
def Rm (M:List (List Int)):Prop:=G7 M/\(M.headD []).length=M.length/\M.length<=8/\(dk (ent M) M.length).natAbs=1
theorem Rm.eq {M:List (List Int)} (h:Rm M):M=mat M.length M.length (ent M):=by
 have:=LA h.1;rwa[h.2.1]at this
end Go.Proofs.YtalmoejhjceflaaGreat
