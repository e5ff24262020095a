/-
  Part 16 of a proof (walks and plain facts).
-/
import Derived.Test.YtalmoejhjceflaaGreatP14
set_option linter.all false
set_option maxRecDepth 100000
set_option maxHeartbeats 64000000
open Nat renaming reduceAdd → aa
open List renaming replicate → ae
namespace Go.Proofs.YtalmoejhjceflaaGreat
open Go.RowKit Go.Proofs.Tryz
variable {n m:Nat} {w:World} {x:Int} {b:Nat->Prop} {c:FF} {e:List Int} {f:Value} {g:OH}
def dP (F:Nat->Int):Nat->Int
 |0=>0
 |k+1=>dP F k+F k
theorem bJ {F G:Nat->Int}: ∀k,(∀p,p<k->F p=G p)->dP F k=dP G k
 |0,_=>rfl
 |k+1,h=>by rw[dP,dP,bJ k (fun p b=>h p (by omega)),h k (by omega)]
theorem qx (F G:Nat->Int): ∀k,dP (fun p=>F p+G p) k=dP F k+dP G k
 |0=>rfl
 |k+1=>by rw[dP,dP,dP,qx F G k];omega
theorem jT: ∀k,dP (fun _=>0) k=0
 |0=>rfl
 |k+1=>by rw[dP,jT k];rfl
theorem n7 {F:Nat->Int} {a:Nat}: ∀{k},a<k->(∀p,p<k->p≠a->F p=0)->dP F k=F a
 |k+1,h,b=>by
  by_cases e:a=k
  ·subst e;rw[dP,bJ a (G:=fun _=>0) (fun p f=>b p (by omega) (by omega)),jT];omega
  rw[dP,n7 (show a<k by omega) (fun p f c=>b p (by omega) c),b k (by omega) (by omega)];omega
theorem pz {k:Nat} (x y:Nat->Int): ∀l,l<=k->eZ (aN k x) (aN k y) l=dP (fun p=>x p*y p) l
 |0,_=>rfl
 |l+1,h=>by
  show eZ (aN k x) (aN k y) l+(aN k x).getD l 0*(aN k y).getD l 0=_;rw[pz x y l (by omega),Yf,Yf,az _ (by omega),az _ (by omega)];rfl
theorem pX (k:Nat) (f g:FF) (i j:Nat):jc k f g i j=dP (fun p=>f i p*g p j) k:=pz _ _ k (XY _)
def OR (i j:Nat) (c:Int):Nat->Nat->Int:=upd idF j i c
def NW (m:Nat):Nat->Nat->Int:=fun a=>idF (pa m a)
theorem Q8 (m a:Nat):pa m (pa m a)=a:=by
 grind [pa]
theorem S9 {i:Nat} (f:n≠i) (p b:Nat):OR i n x p b=idF p b+(if p=n then(if b=i then x else 0)else 0):=by
 unfold OR upd idF;by_cases e:p=n
 ·subst e;grind
 simp[e]
theorem NV {y:Nat->Int} (c:m<n):dP (fun p=>y p*idF p m) n=y m:=by
 grind [n7,idF]
theorem EX {i:Nat} {c:Int} (e:m≠i) (g:m<n) (x:FF) (a b:Nat) (f:b<n):jc n x (OR i m c) a b=x a b+(if b=i then c*x a m else 0):=by
 rw[pX,bJ n (G:=fun p=>x a p*idF p b+x a p*(if p=m then(if b=i then c else 0)else 0)) (fun p _=>by rw[S9 e,Int.mul_add]),qx,NV f];grind [n7]
theorem Ta {i:Nat} (f:m≠i) (h:m<n) (e:FF) (a b:Nat) (g:a<n):jc n (wR (OR i m x)) e a b=e a b+(if a=i then x*e m b else 0):=by
 have:=EX (c:=x) f h (wR e) b a g;grind [pX,wR]
theorem PC {i:Nat} (e:m≠i) (l:m<n) (f:FF) (a b:Nat) (g:a<n) (h:b<n):Em n f (OR i m x) a b=eh f i m x a b:=by
 unfold Em;grind [EX,Ta,eh]
theorem PW (m p b:Nat):idF (pa m p) b=idF p (pa m b):=by
 grind [idF,Q8]
theorem EY (e:m+1<n) (x:FF) (a b:Nat) (c:b<n):jc n x (NW m) a b=x a (pa m b):=by
 rw[pX,bJ n (G:=fun p=>x a p*idF p (pa m b)) (fun p _=>by rw[<- PW];rfl),NV (pb e c)]
theorem UE (e:m+1<n) (x:FF) (a b:Nat) (c:a<n):jc n (wR (NW m)) x a b=x (pa m a) b:=by
 have:=EY e (wR x) b a c;grind [pX,wR]
theorem Tv (c:m+1<n) (f:FF) (a b:Nat) (e:a<n) (g:b<n):Em n f (NW m) a b=kK f m a b:=by
 unfold Em;rw[EY c _ a b g,UE c f a _ e];rfl
/-! Which change is made. -/
inductive Ch where
 |add (i j:Nat)
 |swp (m:Nat)
instance (f:FF) (i j:Nat):Decidable (jX f i j):=by unfold jX;exact inferInstance
instance (f:FF) (i:Nat):Decidable (ou f i):=by unfold ou;exact inferInstance
def scanJ (f:FF) (i:Nat):Nat->Option Nat
 |0=>none
 |j+1=>if jX f i j then scanJ f i j else some j
def scanI (f:FF):Nat->Nat->Option Ch
 |0,_=>none
 |m+1,i=>match scanJ f i i with
  |some j=>some (.add i j)
  |none=>if 0<i/\ ¬ou f i then some (.swp (i-1))else scanI f m (i+1)
def scanF (f:FF) (n:Nat):Option Ch:=scanI f n 0
theorem mi {f:FF} {i:Nat}: ∀{k},scanJ f i k=none-> ∀j,j<k->jX f i j
 |k+1,h,j,b=>by
  unfold scanJ at h;split at h
  ·rename_i c;by_cases e:j=k
   ·grind
   exact mi h j (by omega)
  cases h
theorem wA {f:FF} {i j:Nat}: ∀{k},scanJ f i k=some j->j<k/\ ¬jX f i j/\ ∀b,j<b->b<k->jX f i b
 |k+1,h=>by
  unfold scanJ at h;split at h
  ·rename_i l;obtain⟨c,e,g⟩:=wA h;grind
  grind
def r7 (f:FF) (i:Nat):Prop:=(∀j,j<i->jX f i j)/\(0<i->ou f i)
theorem wy {f:FF}: ∀{m i},scanI f m i=none-> ∀b,i<=b->b<i+m->r7 f b
 |0,i,_,b,c,g=>by omega
 |m+1,i,h,b,c,g=>by
  unfold scanI at h;split at h
  ·cases h
  rename_i j;split at h
  ·cases h
  rename_i n;by_cases e:b=i
  ·subst e;exact⟨mi j,fun l=>by
    grind⟩
  exact wy h b (by omega) (by omega)
def Wd (f:FF):Ch->Prop
 | .add i j=>j<i/\ ¬jX f i j/\(∀c,j<c->c<i->jX f i c)/\ ∀b,b<i->r7 f b
 | .swp m=> ¬ou f (m+1)/\(∀j,j<m+1->jX f (m+1) j)/\ ∀b,b<m+1->r7 f b
def Gn:Ch->Nat
 | .add i _=>i
 | .swp m=>m+1
theorem wz {f:FF} {c:Ch}: ∀{m i},(∀b,b<i->r7 f b)->scanI f m i=some c->Wd f c/\Gn c<i+m
 |m+1,i,p,h=>by
  unfold scanI at h;split at h
  ·rename_i j g;injection h with h
   subst h;obtain⟨l,n,o⟩:=wA g;exact⟨⟨l,n,o,p⟩,by simp[Gn]⟩
  rename_i g;split at h
  ·rename_i q;injection h with h
   subst h;have e:i-1+1=i:=by omega
   refine⟨⟨by grind,by grind [mi],by grind⟩,by grind [Gn]⟩
  rename_i q;have:=wz (m:=m) (i:=i+1) (fun b r=>by
   by_cases e:b=i
   ·subst e;exact⟨mi g,fun s=>by
     grind⟩
   grind) h
  grind
theorem iz {b:Ch} (h:scanF c n=some b):Wd c b/\Gn b<n:=by
 have:=wz (f:=c) (m:=n) (i:=0) (fun e h=>by omega) h;grind
theorem Fp (h:scanF c n=none):Vp c n:=fun i b=>wy (m:=n) (i:=0) h i (by omega) (by omega)
def wS (i:Nat):Nat:=i*(i-1)/2
def CT:Ch->Nat
 | .add i j=>wS i+(i-1-j)
 | .swp m=>wS (m+2)
theorem lA (i:Nat):wS (i+1)=wS i+i:=by
 unfold wS;cases i with
 |zero=>rfl
 |succ i=>
  grind
theorem jC {i:Nat} (h:i<=n):wS i<=wS n:=by
 induction n with
 |zero=>grind
 |succ n b=>
  grind [lA]
def rankF (f:FF) (n:Nat):Nat:=match scanF f n with
 |some c=>CT c
 |none=>wS n
theorem v8 (f:FF) (n:Nat):rankF f n<=wS n:=by
 unfold rankF;split
 ·rename_i c e;obtain⟨g,b⟩:=iz e;cases c with
  |add i j=>
   have b:i<n:=b;have:=jC (show i+1<=n by omega);grind [lA,CT]
  |swp m=>
   have b:m+1<n:=b;exact jC (show m+2<=n by omega)
 omega
theorem QK {i:Nat} (z:m<i) (y:i<n) (s: ∀g,g<i->r7 c g) (x: ∀l,m<=l->l<i->jX c i l):wS i+(i-1-m)<rankF c n:=by
 have p:=jC (show i+1<=n by omega);rw[lA]at p;unfold rankF;split
 ·rename_i b u;obtain⟨r,w⟩:=iz u;cases b with
  |add g l=>
   obtain⟨o,q,t,v⟩:=r;simp only[CT];rcases Y5 g i with h|h|h
   ·exact absurd ((s g h).1 l o) q
   ·grind
   have:=jC (show i+1<=g by omega);grind [lA]
  |swp e=>
   obtain⟨o,q,t⟩:=r;simp only[CT];by_cases h:e+1<i
   ·exact absurd ((s (e+1) h).2 (by omega)) o
   have:=jC (show i+1<=e+2 by omega);grind [lA]
 omega
section
theorem BC {d1 d0 y u v:Int} (j:0<d1) (c:d0.natAbs<=n) (h:d1*x=d0*y+u*v):x.natAbs<=n*y.natAbs+u.natAbs*v.natAbs:=by
 have e:d1.natAbs*x.natAbs=(d0*y+u*v).natAbs:=by rw[<- Y1,h]
 have b:=aa2 (d0*y) (u*v);rw[Y1,Y1]at b;have f:d0.natAbs*y.natAbs<=n*y.natAbs:=XX _ c;have g:x.natAbs<=d1.natAbs*x.natAbs:=aab _ (by omega);omega
theorem MO {d1 d0 y l:Int} (c:0<d1) (b:0<d0) (e:0<x) (f:0<y) (h:d1*x=d0*y+l*l):d1.natAbs*x.natAbs=d0.natAbs*y.natAbs+l.natAbs*l.natAbs:=by
 grind [Int.natAbs_mul_self']
structure Def (f:FF) (n B:Nat):Prop where
 sym:SymF f n
 pos: ∀t,t<n->0<dk f (t+1)
 le: ∀k,k<=n->(dk f k).natAbs<=B
section
variable {f:FF} {n B:Nat}
theorem Def.ne (h:Def f n B): ∀t,t<n->dk f (t+1)≠0:=fun t b=>by have:=h.pos t b;omega
theorem Def.pos0 (h:Def f n B) {k:Nat} (b:k<=n):0<dk f k:=by
 cases k with
 |zero=>rw[co];omega
 |succ k=>exact h.pos k (by omega)
theorem Def.sylv (h:Def f n B) {k a b:Nat} (e:k<n) (j:a<n) (c:b<n):dk f (k+1)*bk f k a b=dk f k*bk f (k+1) a b+bk f k a k*bk f k b k:=by
 have s:=Go.Proofs.YtalmoejhjceflaaGreat.sylv f k (fun t g=>h.ne t (by omega)) a b;rw[i7 h.sym k (by omega) (fun t g=>h.ne t (by omega)) k b e c]at s;omega
theorem Def.diag (h:Def f n B) {a:Nat} (b:a<n): ∀m k,a-k=m->k<=a->0<bk f k a a
 |0,k,e,c=>by
  have:k=a:=by omega
  subst this;rw[<- b7];exact h.pos k b
 |m+1,k,e,c=>by
  have g:=h.diag b m (k+1) (by omega) (by omega);have s:=h.sylv (k:=k) (by omega) b b;have l:=h.pos k (by omega);have j:=h.pos0 (k:=k) (by omega);have o:=aa1 j g;have p:0<=bk f k a k*bk f k a k:=by
   rcases ZM 0 (bk f k a k)with h|h
   ·exact Yj h h
   exact Yx h h
  rcases ZX 0 (bk f k a a)with h|h
  ·exact h
  have:=aaw (ZE l) h;omega
theorem Def.down (h:Def f n B) {a k:Nat} (b:a<n) (e:k<a):(bk f k a k).natAbs*(bk f k a k).natAbs<=B*(bk f k a a).natAbs/\(bk f (k+1) a a).natAbs<=B*(bk f k a a).natAbs:=by
 have s:=MO (h.pos k (by omega)) (h.pos0 (k:=k) (by omega)) (h.diag b _ k rfl (by omega)) (h.diag b _ (k+1) rfl (by omega)) (h.sylv (k:=k) (by omega) b b);have c:=XX (bk f k a a).natAbs (h.le (k+1) (by omega));have g:=h.pos0 (k:=k) (by omega);have:=aab (bk f (k+1) a a).natAbs (show 0<(dk f k).natAbs by omega);omega
theorem Def.nm (h:Def f n B) {a:Nat} (b:a<n): ∀k,k<=a->(bk f k a a).natAbs<=B^k*(f a a).natAbs
 |0,_=>by rw[cK];simp
 |k+1,g=>by
  have c:=(h.down b (show k<a by omega)).2;have e:=XU B (h.nm b k (by omega));grind
theorem Def.lam_le (h:Def f n B) {a k:Nat} (b:a<n) (j:k<a) (e:1<=B) (g:(f a a).natAbs<=m):(bk f k a k).natAbs<=B^n*m:=by
 have l:=(h.down b j).1;have o:=XU B (h.nm b k (by omega));have p:(bk f k a k).natAbs<=(bk f k a k).natAbs*(bk f k a k).natAbs:=Nat.le_mul_self _;have q:B*(B^k*(f a a).natAbs)=B^(k+1)*(f a a).natAbs:=by grind
 have c:B^(k+1)<=B^n:=Yd e (by omega);have r:B^(k+1)*(f a a).natAbs<=B^n*m:=Yn c g;omega
theorem Def.up (h:Def f n B) {a L:Nat} (b:a<n) (c: ∀k,k<a->(bk f k a k).natAbs<=L): ∀m k,a-k=m->k<=a->(bk f k a a).natAbs<=(B+L*L)*(B+1)^m
 |0,k,j,g=>by
  have:k=a:=by omega
  subst this;rw[<- b7];have:=h.le (k+1) (by omega)
  simp;omega
 |m+1,k,j,g=>by
  have l:=h.up b c m (k+1) (by omega) (by omega);have s:=BC (h.pos k (by omega)) (h.le k (by omega)) (h.sylv (k:=k) (by omega) b b);have e:=c k (by omega);have o:=Yn e e;have p:=XU B l;have q:L*L<=(B+L*L)*(B+1)^m:=XQ (by omega) (Zf _ (YP (by omega)));grind [Nat.mul_add]
theorem Def.norm_le (h:Def f n B) {a:Nat} (e:a<n) (c: ∀k,k<a->(bk f k a k).natAbs<=m):(f a a).natAbs<=(B+m*m)*(B+1)^n:=by
 have b:=h.up e c a 0 rfl (by omega);rw[cK]at b;exact XQ b (XU _ (Yd (by omega) (by omega)))
theorem Def.ent_up (h:Def f n B) {a b L:Nat} (e:a<n) (g:b<a) (c: ∀a k,a<n->k<a->(bk f k a k).natAbs<=L): ∀m k,b-k=m->k<=b->(bk f k a b).natAbs<=(L+L*L)*(B+1)^m
 |0,k,l,j=>by
  grind
 |m+1,k,l,j=>by
  have o:=h.ent_up e g c m (k+1) (by omega) (by omega);have s:=BC (h.pos k (by omega)) (h.le k (by omega)) (h.sylv (k:=k) (a:=a) (b:=b) (by omega) e (by omega));have p:=Yn (c a k e (by omega)) (c b k (by omega) (by omega));have q:=XU B o;have r:L*L<=(L+L*L)*(B+1)^m:=XQ (by omega) (Zf _ (YP (by omega)));grind [Nat.mul_add]
theorem Def.ent_le (h:Def f n B) (l: ∀a k,a<n->k<a->(bk f k a k).natAbs<=m) {a b:Nat} (c:a<n) (j:b<n):(f a b).natAbs<=(B+m+m*m)*(B+1)^n:=by
 have key: ∀a b,a<n->b<a->(f a b).natAbs<=(B+m+m*m)*(B+1)^n:=fun a b c j=>by
  have g:=h.ent_up c j l b 0 rfl (by omega);rw[cK]at g;refine XQ g (Yn (by omega) (Yd (by omega) (by omega)))
 rcases Y5 a b with e|e|e
 ·rw[h.sym a c b j];grind
 ·subst e;have g:=h.norm_le c (fun k o=>l a k c o);grind
 grind
end
/-! The numbers of the reduction. -/
section
variable {f:FF} {n B:Nat}
def cN (n B:Nat):Nat:=(B+B*B)*(B+1)^n
def l0 (n B:Nat):Nat:=B^n*cN n B
theorem wG (h:Def f n B) {i:Nat} (b:i<n) (c:m<i):jX f i m↔2*((bk f m i m).natAbs:Int)<=dk f (m+1):=by
 rw[jX,oO h.pos (by omega),j9 h.pos (by omega)]
theorem EU (h:Def f n B) {i:Nat} (c:i<n) (b:0<i):ou f i↔3*(dk f i*dk f i)<=4*(dk f (i-1)*dk f (i+1)+bk f (i-1) i (i-1)*bk f (i-1) i (i-1)):=by
 rw[ou,oO h.pos (by omega),j9 h.pos (by omega),j9 h.pos (by omega),j9 h.pos (by omega)]
theorem Fu (h:Def f n B) {i:Nat} (b:i<n) (c:m<i) (e:jX f i m):(bk f m i m).natAbs<=B:=by
 have g:=(wG h b c).1 e;have l:=h.le (m+1) (by omega);omega
theorem rO (h:Def f n B) {i:Nat} (b:i<n) (e: ∀j,j<i->jX f i j):(f i i).natAbs<=cN n B:=h.norm_le b fun k c=>Fu h b c (e k c)
def Jn (f:FF) (n B:Nat):Prop:=(∀a,a<n->(f a a).natAbs<=cN n B)\/
 ∃i,i<n/\(∀a,a<n->a≠i->(f a a).natAbs<=cN n B)/\(∀c,c<i->r7 f c)/\ ∃s,s<=i/\(∀b,s<=b->b<i->jX f i b)/\ ∀k,k<i->(bk f k i k).natAbs+2<=(l0 n B+2)*(B+2)^(i-s)
def lM (n B:Nat):Nat:=(l0 n B+2)*(B+2)^n
theorem Jn.lam (h:Def f n B) (l:1<=B) (c:Jn f n B): ∀a k,a<n->k<a->(bk f k a k).natAbs<=lM n B:=by
 have j:l0 n B<=lM n B:=XQ (by omega) (Zf _ (YP (by omega)));have o: ∀e,e<=n->(l0 n B+2)*(B+2)^e<=lM n B:=fun e m=>XU _ (Yd (by omega) m)
 rcases c with c|⟨i,p,c,_,s,r,_,q⟩
 ·exact fun a k b g=>XQ (h.lam_le b g l (c a b)) j
 intro a k b g;by_cases e:a=i
 ·grind
 exact XQ (h.lam_le b g l (c a b e)) j
def eN (n B:Nat):Nat:=(B+lM n B+lM n B*lM n B)*(B+1)^n
theorem Jn.ent (h:Def f n B) (c:1<=B) (j:Jn f n B) {a:Nat} (e:a<n) (g:m<n):(f a m).natAbs<=eN n B:=h.ent_le (j.lam h c) e g
end
end
section
theorem QI {d:Int} (f:0<d):2*((x+ -(qF x d)*d).natAbs:Int)<=d:=by
 unfold qF;have b:=abm (2*x+d) (2*d);have c:=abj (2*x+d) (show 2*d≠0 by omega);have e:=aaT (2*x+d) (show 0<2*d by omega);grind
theorem Ff {l d:Int} (n:0<d):(qF l d).natAbs<=l.natAbs+1:=by
 unfold qF;have b:=abm (2*l+d) (2*d);have g:=abj (2*l+d) (show 2*d≠0 by omega);have j:=aaT (2*l+d) (show 0<2*d by omega);generalize(2*l+d)/(2*d)=q at*
 have e:2*d*q=2*(d*q):=abB 2 d q;rw[e]at b;have c:(d*q).natAbs=d.natAbs*q.natAbs:=Y1 d q;have f:l.natAbs<=d.natAbs*l.natAbs:=aab _ (by omega);rcases aad (l.natAbs+1) q.natAbs with h|h
 ·exfalso;have m:=XU d.natAbs (show l.natAbs+2<=q.natAbs by omega);grind
 exact h
section
variable {f:FF} {n B:Nat}
theorem Lg (g:SymF f n) {i:Nat} (c:Int) (p:m<n):SymF (eh f i m c) n:=fun a l b o=>by
 by_cases q:a=b
 ·grind
 unfold eh;rw[g a l b o];by_cases h:a=i
 ·by_cases e:b=i
  ·omega
  simp only[h,e,if_true,if_false];rw[g m p b o];omega
 by_cases e:b=i
 ·simp only[h,e,if_true,if_false];rw[g a l m p];omega
 omega
theorem Def.add (h:Def f n B) {i:Nat} (c:Int) (b:m<i) (l:i<n):Def (eh f i m c) n B:=by
 obtain⟨e,_⟩:=jH h.sym h.ne c b l;exact⟨Lg h.sym c (by omega),fun t o=>by rw[e (t+1) (by omega)];exact h.pos t o,fun k g=>by rw[e k g];exact h.le k g⟩
theorem yD (h:Def f n B) {i:Nat} (c:Int) (e:m<i) (r:i<n) {b:Nat} (t:b<i) (s:r7 f b):r7 (eh f i m c) b:=by
 have p:=h.add c e r;obtain⟨l,u,v⟩:=jH h.sym h.ne c e r;have q: ∀k,k<b->bk (eh f i m c) k b k=bk f k b k:=fun k g=>by
  grind [uC]
 refine⟨fun k g=>?_,fun o=>?_⟩
 ·rw[wG p (by omega) g,q k g,l _ (by omega)];exact(wG h (by omega) g).1 (s.1 k g)
 rw[EU p (by omega) o,q _ (by omega),l _ (by omega),l _ (by omega),l _ (by omega)];exact(EU h (by omega) o).1 (s.2 o)
def cF (f:FF) (i j:Nat):Int:= -(qF (lam f i j) (dd f (j+1)))
theorem Ls (h:Def f n B) {i:Nat} (b:m<n):cF f i m= -(qF (bk f m i m) (dk f (m+1))):=by rw[cF,oO h.pos b,j9 h.pos (by omega)]
theorem AF (h:Def f n B) {i:Nat} (c:m<i) (g:i<n) {b:Nat} (s:m<=b) (q:b<i) (t:m<b->jX f i b):jX (eh f i m (cF f i m)) i b:=by
 have p:=h.add (cF f i m) c g;obtain⟨l,o,r⟩:=jH h.sym h.ne (cF f i m) c g;rw[wG p g q,l _ (by omega)];by_cases e:b=m
 ·subst e;rw[o b i b (by omega)];have:eh (bk f b) i b (cF f i b) i b=bk f b i b+cF f i b*dk f (b+1):=by
   unfold eh;grind [b7]
  rw[this,Ls h (by omega)];exact QI (h.pos b (by omega))
 grind [wG]
theorem SW (h:Def f n B) (F:1<=B) (Q:Jn f n B) {i:Nat} (P:Wd f (.add i m)) (g:i<n):Jn (eh f i m (cF f i m)) n B:=by
 obtain⟨b,z,X,A⟩:=P;obtain⟨g1,L,g3⟩:=jH h.sym h.ne (cF f i m) b g;have H: ∀a,a≠i->eh f i m (cF f i m) a a=f a a:=fun a o=>uC o o
 -- the new lambdas of row i
 have u: ∀M:Nat,(∀k,k<i->(bk f k i k).natAbs+2<=M)-> ∀k,k<i->(bk (eh f i m (cF f i m)) k i k).natAbs+2<=M*(B+2):=fun M v k l=>by
  have S:=v k l;have R:=v m b;have e0:M*(B+2)=M*B+2*M:=by grind
  rcases Y5 k m with e|e|e
  ·rw[L k i k (by omega)];have K:eh (bk f k) i m (cF f i m) i k=bk f k i k+cF f i m*bk f k m k:=by
    grind [eh]
   rw[K];have I:=aa2 (bk f k i k) (cF f i m*bk f k m k);rw[Y1]at I;have a2:(cF f i m).natAbs<=(bk f m i m).natAbs+1:=by rw[Ls h (by omega),Int.natAbs_neg];exact Ff (h.pos m (by omega))
   have J:(bk f k m k).natAbs<=B:=Fu h (by omega) e ((A m b).1 k e);have a4:=Yn (show(cF f i m).natAbs<=M by omega) J;omega
  ·subst e;have hz:=AF h b g (XY k) l (fun h=>by omega);have:=Fu (h.add (cF f i k) b g) g l hz;have:B<=M*B:=aab _ (by omega);omega
  grind
 have c: ∀M e:Nat,1<=e->e<=i-m->M*(B+2)<=(l0 n B+2)*(B+2)^e->(∀a,a<n->a≠i->(f a a).natAbs<=cN n B)->(∀k,k<i->(bk f k i k).natAbs+2<=M)->Jn (eh f i m (cF f i m)) n B:=fun M e T x w q v=>by
  refine .inr ⟨i,g,fun a o W=>by grind,fun i' t=>yD h _ b g t (A i' t),m,by omega,fun j' N E=>AF h b g N E (fun O=>X j' O E),fun k l=>?_⟩;refine XQ (u M v k l) (XQ w (XU _ (Yd (by omega) x)))
 rcases Q with q|⟨p,y,q,C,s,Y,Z,V⟩
 ·refine c (l0 n B+2) 1 (by omega) (by omega) (by simp) (fun a o _=>q a o) (fun k l=>?_);have:(bk f k i k).natAbs<=l0 n B:=h.lam_le g l F (q i g);omega
 by_cases e:p=i
 ·subst e;have U:m<s:=by
   grind
  refine c ((l0 n B+2)*(B+2)^(p-s)) (p-s+1) (by omega) (by omega) (by grind) q V
 have G:(f p p).natAbs<=cN n B:=by
  rcases aad p i with D|D
  ·exact rO h y (A p D).1
  exact absurd ((C i (by omega)).1 m b) z
 have r: ∀a,a<n->(f a a).natAbs<=cN n B:=fun a o=>by
  grind
 refine c (l0 n B+2) 1 (by omega) (by omega) (by simp) (fun a o _=>r a o) (fun k l=>?_);have:(bk f k i k).natAbs<=l0 n B:=h.lam_le g l F (r i g);omega
theorem yQ (h:Def f n B) (c:m+1<n) (o: ¬ou f (m+1)):4*dk (kK f m) (m+1)<3*dk f (m+1)/\0<dk (kK f m) (m+1):=by
 obtain⟨e,g⟩:=wP h.sym h.pos c;refine⟨?_,g⟩;have j: ¬3*(dk f (m+1)*dk f (m+1))<=4*(dk f m*dk f (m+2)+bk f m (m+1) m*bk f m (m+1) m):=fun l=>o ((EU h c (by omega)).2 l)
 rw[<- e]at j;have p:=h.pos m (by omega);rcases ZX (4*dk (kK f m) (m+1)) (3*dk f (m+1))with b|b
 ·exact b
 exfalso;have q:=X5 b (ZE p);grind
theorem Def.swap (h:Def f n B) (c:m+1<n) (q: ¬ou f (m+1)):Def (kK f m) n B:=by
 obtain⟨j,_⟩:=ns h.sym h.pos c;obtain⟨s,u⟩:=yQ h c q;have p:=h.pos m (by omega);refine⟨fun a l b o=>h.sym _ (pb c l) _ (pb c o),fun t r=>?_,fun k g=>?_⟩
 ·by_cases e:t=m
  ·grind
  rw[j (t+1) (by omega) (by omega)];exact h.pos t r
 by_cases e:k=m+1
 ·subst e;have:=h.le (m+1) g;omega
 rw[j k g e];exact h.le k g
theorem O4 (h:Def f n B) (p:Jn f n B) (o:Wd f (.swp m)) (q:m+1<n):Jn (kK f m) n B:=by
 obtain⟨j,t,r⟩:=o;have c: ∀a,a<n->(f a a).natAbs<=cN n B:=by
  rcases p with c|⟨i,s,c,l,_⟩
  ·exact c
  intro a g;by_cases e:a=i
  ·subst e;rcases Y5 a (m+1)with b|b|b
   ·exact rO h g (r a b).1
   ·grind [rO]
   exact absurd ((l (m+1) b).2 (by omega)) j
  grind
 exact .inl fun a g=>c _ (pb q g)
def prD (f:FF):Nat->Nat
 |0=>1
 |k+1=>prD f k*(dk f (k+1)).natAbs
theorem rK {g:FF}: ∀k,(∀t,t<k->dk g (t+1)=dk f (t+1))->prD g k=prD f k
 |0,_=>rfl
 |k+1,h=>by rw[prD,prD,rK k (fun t b=>h t (by omega)),h k (by omega)]
theorem Hg (h:Def f n B): ∀k,k<=n->0<prD f k
 |0,_=>by simp[prD]
 |k+1,b=>by
  have:=h.pos k (by omega);exact aa6 (Hg h k (by omega)) (by omega)
theorem Nb (h:Def f n B): ∀k,k<=n->prD f k<=B^k
 |0,_=>by simp[prD]
 |k+1,b=>by rw[prD,Zd];exact Yn (Nb h k (by omega)) (h.le (k+1) b)
theorem CO (h:Def f n B) {m:Nat} (c:m+1<n) (j: ¬ou f (m+1)): ∀k,m<k->k<=n->4*prD (kK f m) k<=3*prD f k
 |k+1,r,b=>by
  obtain⟨g,_⟩:=ns h.sym h.pos c;obtain⟨o,q⟩:=yQ h c j;have p:=h.pos m (by omega);rw[prD,prD];by_cases e:k=m
  ·subst e;rw[rK k (fun t s=>g (t+1) (by omega) (by omega)),aa4,aa4 3];exact XU _ (by omega)
  have l:=CO h c j k (by omega) (by omega);rw[g (k+1) b (by omega),<- ZP,<- ZP];exact XX _ l
end
/-! Bounds of the minors of a matrix of small entries. -/
theorem Mp {E:Nat} {r:Nat->Int} (f: ∀c,(r c).natAbs<=E) {M:Nat}: ∀(b:List Nat) (N:Nat) (F:List Nat->Int),b.length<=N->(∀l,l.length<=N->(F l).natAbs<=M)->(f9 r F b).natAbs<=b.length*(E*M)
 |[],_,_,_,_=>by simp[f9]
 |c::b,N,F,m,e=>by
  rw[f9];have g:=Int.natAbs_sub_le (r c*F b) (f9 r (fun l=>F (c::l)) b);have h:=Mp f b (N-1) (fun l=>F (c::l)) (by grind) (fun l n=>e (c::l) (by grind));rw[Y1]at g;have j:=Yn (f c) (e b (by grind));grind [Nat.add_mul]
theorem Su {E L:Nat} {f:FF} (e: ∀a b,(f a b).natAbs<=E): ∀k l,l.length<=L->(om f k l).natAbs<=(L*E)^k
 |0,l,_=>by simp[om]
 |k+1,l,c=>by
  rw[om];have:=Mp (e k) l L (om f k) c (fun l c=>Su e k l c);have g:l.length*(E*(L*E)^k)<=L*(E*(L*E)^k):=XX _ c;grind
theorem Gw: ∀k,(BS k).length=k
 |0=>rfl
 |k+1=>by rw[BS,Ym,Gw k]
abbrev bB:Nat:=722204136308736
theorem TE {L:Nat} (e:1<=L*n) (g: ∀a b,(c a b).natAbs<=n) {k:Nat} (h:k<=L):(dk c k).natAbs<=(L*n)^L:=
 XQ (Su g k (BS k) (by grind [Gw])) (Yd e h)
theorem VF (e: ∀a b,(c a b).natAbs<=9) {k:Nat} (g:k<=8):(dk c k).natAbs<=bB:=by
 have h:=TE (L:=8) (by decide) e g;omega
end
section
def WF (f:FF):Ch->Nat->Nat->Int
 | .add i j=>eh f i j (cF f i j)
 | .swp m=>kK f m
def R8 (f:FF):Ch->Nat->Nat->Int
 | .add i j=>OR i j (cF f i j)
 | .swp m=>NW m
inductive Rch (n:Nat):(Nat->Nat->Int)->(Nat->Nat->Int)->(Nat->Nat->Int)->(Nat->Nat->Int)->Prop
 |done (f t:FF) (h:scanF f n=none):Rch n f t f t
 |step (f t h T:FF) (c:Ch) (hc:scanF f n=some c) (hr:Rch n (WF f c) (jc n t (R8 f c)) h T):Rch n f t h T
structure DC (N B S Z:Nat):Prop where
 n8:N<=8
 b1:9<=B
 lMs: ∀n,n<N+1->lM n B+1<4294967296^Z
 eNs: ∀n,n<N+1->eN n B<4294967296^400
 pt: ¬4^S<=3^S*B^N
 sz:(Z+4)*(28*S+28)+1<=16000000
 z4:Z<=400
structure RedI (N B Z n:Nat) (f0 f t:FF) (s adds:Nat):Prop where
 dfn:Def f n B
 jn:Jn f n B
 det:dk f n=dk f0 n
 pot:4^s*prD f n<=3^s*B^N
 cnt:adds<=28*s+rankF f n
 szt: ∀a b,a<n->b<n->Sz (t a b) (1+(Z+4)*adds)
theorem WD:DC 8 bB 970 41:=⟨by decide,by decide,by decide+kernel,by decide+kernel,by decide+kernel,by decide,by decide⟩
theorem FB (h:n<=8):wS n<=28:=XQ (jC h) (by decide)
theorem QD (K:Nat) (e: ¬4^K<=3^K*n) (s:Nat) (f:K<=s) (b:4^s<=3^s*n):False:=by
 obtain⟨r,rfl⟩: ∃r,s=K+r:=⟨s-K,by omega⟩;rw[ZI,ZI]at b;have c:3^K*3^r*n<=3^K*n*4^r:=by
  rw[ZP,YQ (3^r),<- ZP];simp_all[XU,X6]
 exact e (Nat.le_of_mul_le_mul_right (XQ b c) (YP (by omega)))
section
variable {N B S Z:Nat} {n:Nat} {f0 f t:FF} {s adds:Nat}
theorem RedI.s_le (k:DC N B S Z) (h:RedI N B Z n f0 f t s adds):s<S:=by
 rcases aad s S with b|b
 ·exact b
 exfalso;have e:=Hg h.dfn n (XY _);have c:4^s<=3^s*B^N:=XQ (Zf _ e) h.pot;exact QD S k.pt s b c
theorem RedI.adds_le (k:DC N B S Z) (h:RedI N B Z n f0 f t s adds) (b:n<=N):adds<=28*S+28:=by
 have c:=h.s_le k;have e:=h.cnt;have g:=v8 f n;have j:=FB (XQ b k.n8);omega
theorem RedI.szf (k:DC N B S Z) (h:RedI N B Z n f0 f t s adds) (j:n<=N) {a:Nat} (e:a<n) (g:m<n):Sz (f a m) 400:=by
 have c:=h.jn.ent h.dfn (XQ (by decide) k.b1) e g;exact ZB c (k.eNs n (by omega))
theorem RedI.szc (k:DC N B S Z) (h:RedI N B Z n f0 f t s adds) (p:n<=N) {i:Nat} (b:i<n) (c:m<i):Sz (cF f i m) Z:=by
 rw[Ls h.dfn (by omega)];have e:=Ff (l:=bk f m i m) (h.dfn.pos m (by omega));have g:=h.jn.lam h.dfn (XQ (by decide) k.b1) i m b c;have o:=k.lMs n (by omega);grind [Sz]
theorem JP {c:Ch} (h:scanF f n=some c):rankF f n=CT c:=by grind [rankF]
theorem RedI.add (k:DC N B S Z) (h:RedI N B Z n f0 f t s adds) (C:n<=N) {i:Nat} (w:scanF f n=some (.add i m)):RedI N B Z n f0 (eh f i m (cF f i m)) (jc n t (OR i m (cF f i m))) s (adds+1)/\rankF f n<rankF (eh f i m (cF f i m)) n:=by
 obtain⟨r,e⟩:=iz w;have e:i<n:=e;obtain⟨c,D,F,E⟩:=id r;have o:rankF f n<rankF (eh f i m (cF f i m)) n:=by
  rw[JP w];exact QK c e (fun G g=>yD h.dfn _ c e g (E G g)) (fun H y q=>AF h.dfn c e y q (fun z=>F H z q))
 obtain⟨p,_⟩:=jH h.dfn.sym h.dfn.ne (cF f i m) c e;have A:=h.cnt;refine⟨⟨h.dfn.add _ c e,SW h.dfn (XQ (by decide) k.b1) h.jn r e,by rw[p n (XY _)];exact h.det,by rw[rK n (fun t J=>p (t+1) (by omega))];exact h.pot,by omega,fun a b u v=>?_⟩,o⟩;rw[EX (by omega) (by omega) t a b v];have x:=h.szt a b u v;split
 ·have I:=(h.szc k C e c).mul (h.szt a m u (by omega));exact(Sz.add (x.mono (l:=Z+(1+(Z+4)*adds)) (by omega)) I).mono (by grind)
 rw[Int.add_zero];exact x.mono (by grind)
theorem RedI.swap (k:DC N B S Z) (h:RedI N B Z n f0 f t s adds) (y:n<=N) (w:scanF f n=some (.swp m)):RedI N B Z n f0 (kK f m) (jc n t (NW m)) (s+1) adds:=by
 obtain⟨g,c⟩:=iz w;have c:m+1<n:=c;obtain⟨e,_,_⟩:=id g;obtain⟨u,_⟩:=ns h.dfn.sym h.dfn.pos c;have x:=h.cnt;have z:=v8 f n;have A:=FB (XQ y k.n8);refine⟨h.dfn.swap c e,O4 h.dfn h.jn g c,by rw[u n (XY _) (by omega)];exact h.det,?_,by omega,fun a b v j=>?_⟩
 ·have p:=CO h.dfn c e n (by omega) (XY _);have q:=XU (4^s) p;have l:4^(s+1)*prD (kK f m) n=4^s*(4*prD (kK f m) n):=by grind
  have o:4^s*(3*prD f n)=3*(4^s*prD f n):=aa4 _ _ _;have r:3^(s+1)*B^N=3*(3^s*B^N):=by grind
  rw[l,r];rw[o]at q;exact XQ q (XU 3 h.pot)
 rw[EY c t a b j];exact h.szt a _ v (pb c j)
def So (S n:Nat) (f:FF) (s:Nat):Nat:=(S-s)*30+(29-rankF f n)
theorem RedI.mu_add (k:DC N B S Z) (h:RedI N B Z n f0 f t s adds) (b:n<=N) {i:Nat} (c:scanF f n=some (.add i m)):So S n (eh f i m (cF f i m)) s<So S n f s:=by
 have e:=(h.add k b c).2;have g:=v8 (eh f i m (cF f i m)) n;have l:=FB (XQ b k.n8);unfold So;omega
theorem RedI.mu_swap (k:DC N B S Z) (h:RedI N B Z n f0 f t s adds) (c:n<=N) (b:scanF f n=some (.swp m)):So S n (kK f m) (s+1)<So S n f s:=by
 have e:=(h.swap k c b).s_le k;grind [So]
theorem oZ (k:DC N B S Z) (e:n<=N): ∀m f t s adds,So S n f s<=m->RedI N B Z n f0 f t s adds-> ∃h T,Rch n f t h T
 |0,f,t,s,adds,o,h=>by
  cases b:scanF f n with
  |none=>exact⟨f,t,.done f t b⟩
  |some c=>
   cases c with
   |add i j=>have:=h.mu_add k e b;omega
   |swp m=>have:=h.mu_swap k e b;omega
 |m+1,f,t,s,adds,o,h=>by
  cases b:scanF f n with
  |none=>exact⟨f,t,.done f t b⟩
  |some c=>
   cases c with
   |add i j=>
    have:=h.mu_add k e b;obtain⟨g,T,l⟩:=oZ k e m _ _ _ _ (by omega) (h.add k e b).1;exact⟨g,T,.step f t g T _ b l⟩
   |swp q=>
    have:=h.mu_swap k e b;obtain⟨g,T,l⟩:=oZ k e m _ _ _ _ (by omega) (h.swap k e b);exact⟨g,T,.step f t g T _ b l⟩
theorem RedI.red (h:RedI N B Z n f0 f t s adds) (b:1<=n) (g:dk f0 n<=10000) (e:scanF f n=none):RedR f n:=by
 refine(QP b).1 ⟨h.dfn.sym,fun k c=>?_,?_,Fp e⟩
 ·rw[pJ h.dfn.pos k c];exact h.dfn.pos k c
 have:=pJ h.dfn.pos (n-1) (by omega);rw[show n-1+1=n by omega]at this;rw[this,h.det];exact g
theorem RedI.start_ (k:DC N B S Z) (m:n<=N) (p:SymF f n) (o:Ba f n) (j: ∀k,k<=n->(dk f k).natAbs<=B) (h: ∀a,a<n->(f a a).natAbs<=B) (q: ∀a b,a<n->b<n->Sz (t a b) 1):RedI N B Z n f f t 0 0:=by
 have e: ∀k,k<n->0<dk f (k+1):=fun k l=>(Ak o k l).1
 have c:Def f n B:=⟨p,e,j⟩;have r:=k.b1;refine⟨c,.inl fun a g=>XQ (h a g) ?_,rfl,?_,by omega,fun a b g h=>(q a b g h).mono (by omega)⟩
 ·unfold cN;exact XQ (abc B (B*B)) (Zf _ (YP (by omega)))
 simp only[abV,ZH];exact XQ (Nb c n (XY _)) (Yd (by omega) m)
theorem RedI.start (g:1<=n) (e:n<=8) (j:SymF f n) (h:Ba f n) (c: ∀a b,(f a b).natAbs<=9) (l: ∀a b,a<n->b<n->Sz (t a b) 1):RedI 8 bB 41 n f f t 0 0:=
 RedI.start_ WD e j h (fun k m=>VF c (by omega)) (fun a _=>XQ (c a a) (by decide)) l
end
end
theorem Ce {b:World} (h:Ext w b):Keep (fun _=>False) w b:=⟨h.os,h.tape,h.output,h.size,fun k c _=>h.block k c⟩
theorem Mk {b:World} (h:Keep (fun _=>False) w b):Ext w b:=⟨h.os,h.tape,h.output,h.size,fun k c=>h.block k c (fun h=>h)⟩
theorem GQ {j:World} (h:Ext w j) (l: ∀f,b f->f<w.heap.size):Inv w (fun _=>False) b (famH 0 []) (fun _ _=>none) j:=by
 have e: ∀a,famH 0 [] a=[]:=fun a=>by grind [famH]
 refine⟨Ce h,fun a r o g=>?_,fun a r n s o q f c p g=>?_,fun a r o f c g=>?_,fun f m=>XZ (l f m) h.size,fun a r o g=>?_⟩<;>(grind)
theorem kR {P:Program} {f:FuncId} {args:List TV} {r:TV} (q:callable P f=true) (h: ∀(X:Nat->Prop) (w:World) (vs:Array Value),(∀b,X b->b<w.heap.size)->vs.size=args.length->
  (∀(j:Nat) t,args[j]?=some t-> ∃v:Value,vs[j]?=some v/\t.rel (fun _ _=>none) (fun _=>[]) X w v)->Calls P f vs w fun e g=> ∃v,e= .returned v/\(∀s H Y,r.rel s H Y g v)/\Ext w g):CallC P f args ⟨[],r⟩:=
 ⟨q,fun X w vs l c p=>(h X w vs l c p).mono fun e g ⟨v,m,n,o⟩=>⟨v,m,fun _ _=>none,GQ o l,n _ _ _⟩⟩
theorem CallC.calls {P:Program} {f:FuncId} {args:List TV} {r:TV} (h:CallC P f args ⟨[],r⟩) {vs:Array Value} (c:vs.size=args.length) (p: ∀(j:Nat) t,args[j]?=some t-> ∃v:Value,vs[j]?=some v/\t.rel (fun _ _=>none) (fun _=>[]) (fun _=>False) w v):Calls P f vs w fun e g=> ∃v,e= .returned v/\(∃l H X,r.rel l H X g v)/\Ext w g:=
 (h.2 (fun _=>False) w vs (fun b h=>h.elim) c p).mono fun e g ⟨v,m,l,n,o⟩=>⟨v,m,⟨_,_,_,o⟩,Mk n.keep⟩
theorem CW {e:Rho} (c:Bool):(TV.raw (.bool c)).rel e g b w (.bool c):=bO.raw _ rfl
theorem nY {v:Value} (h:bO b w (.raw f) v):v=f:=by cases h;rfl
theorem Aq (h:bO b w (.sl (ls fI e)) f): ∃A c,f= .slice A e.length c/\e.length<=c/\e.length<=9223372036854775807/\RdI .i64 w A e:=by
 generalize m:PV.sl (ls fI e)=x at h;cases h with
 |raw f h=>cases m
 |ptr g o F j y B r t=>cases m
 |nil a c=>
  injection m with m
  have D:e=[]:=by simp_all[ls]
  subst D;exact⟨a,c,rfl,Yt _,by simp,RdI.nil _ _ _⟩
 |sl g o u cap J j y B q n s r t=>
  injection m with m
  subst m;rw[dE]at n s;refine⟨some ⟨g,o,none⟩,cap,by rw[dE],n,s,fun E=>⟨g,o,rfl,fun i x m=>?_⟩⟩;rw[XK]at m;obtain⟨z,I,rfl⟩:=XI.1 m;have p:(ls fI e)[i]?=some (fI z):=by grind [fh]
  have C:u=1:=by rw[<- q _ (XH p)];rfl
  subst C;have G:=r i _ 0 _ p rfl;have H:=nY (t i _ 0 _ p rfl);grind
theorem qk {M:List (List Int)} (h:bO b w (.sl (ls (fR fI) M)) f): ∃A c,f= .slice A M.length c/\M.length<=c/\M.length<=9223372036854775807/\qR .i64 w A M:=by
 generalize l:PV.sl (ls (fR fI) M)=x at h;cases h with
 |raw f h=>cases l
 |ptr e m F g z B q t=>cases l
 |nil a c=>
  injection l with l
  have D:M=[]:=by simp_all[ls]
  subst D;exact⟨a,c,rfl,Yt _,by simp,qR.nil _ _ _⟩
 |sl e m u cap H g z B o j s q t=>
  injection l with l
  subst l;rw[dE]at j s;refine⟨some ⟨e,m,none⟩,cap,by rw[dE],j,s,fun E=>⟨e,m,rfl,fun i r G=>?_⟩⟩;have n:(ls (fR fI) M)[i]?=some (fR fI r):=by grind [fh]
  have C:u=1:=by rw[<- o _ (XH n)];rfl
  subst C;have p:=q i _ 0 _ n rfl;have y:=Aq (t i _ 0 _ n rfl);rw[aa5,YA]at p;exact⟨_,p,y⟩
/-! The program's functions. -/
theorem uE {args:List TV} {vs:Array Value} (h: ∀(j:Nat) t,args[j]?=some t-> ∃v:Value,vs[j]?=some v/\t.rel (fun _ _=>none) (fun _=>[]) b w v) {j:Nat} {x:PV} (c:args[j]?=some (.one (.p x))): ∃v:Value,vs[j]?=some v/\bO b w x v:=h j _ c
def Fy (v:Value) (a:Nat) (g:Nat->Value):Nat->Value:=fun j=>if j=0 then v else if j=1 then .int .i64 (a:Int)else g j
theorem Jr (tx n:Nat) (A:Option Addr) (c:Nat) (l:List Int) (a:Nat) (g:Nat->Value) (w:World) (hn:2<=n) (hl:RdI .i8 w A l) (hb: ∀z∈l,-128<=z/\z<=127) (ll:l.length<=9223372036854775807) (ha:a<=l.length) (hT:w.rowIs tx 104 n (Fy (.slice A l.length c) a g)) (hne:l≠[]-> ∀p,A=some p->p.block≠tx):
  Calls prog 61 #[.pointer (some ⟨tx,0,none⟩)] w fun e w'=>e= .returned (.int .i64 (l.getD a 0))/\w'.rowIs tx 104 n (Fy (.slice A l.length c) (gh l a) g)/\w.grownBy w' (some tx):=by
 have HT:=XL hT;have HL:=XL hl;have HB:=XL hb;have HN:=XL hne;clear hT hl hb hne;have t0:w.cell? ⟨tx,0,none⟩=some (.slice A l.length c):=HT.out.cell (by omega);have t1:w.cell? ⟨tx,1,none⟩=some (.int .i64 (a:Int)):=HT.out.cell (by omega);have t2:w.frozen? ⟨tx,1,none⟩=false:=HT.out.frozen 1;by_cases hlt:a<l.length
 ·obtain⟨z,hz⟩:=getElem?_of_lt hlt;obtain⟨b,off,rfl,hc⟩:=HL.out.at_ hz;have hbt:b≠tx:=HN.out (by grind) _ rfl;have hzb:=HB.out z (XH hz);have hz1:=hzb.1;have hz2:=hzb.2;have HZ:Hid (l.getD a 0=z):=XL (by grind);have HNx:Hid (gh l a=a+1):=XL (if_pos hlt);clear hz hzb
  go_enter func61,ntmps61
  go_wp2_with fail
  go_quiet (fail)
  go_wp2_with fail
  have hrow:=((nk HT.out nq).set 1 (.int .i64 ((a:Int)+1))).congr (g:=Fy (.slice (some ⟨b,off,none⟩) l.length c) (a+1) g) (fun j hj=>by
   grind [Fy])
  have HROW:=XL hrow;have HG:=XL (zG (eJ ((Ext.refl w).drewN nq) tx) 1 (.int .i64 ((a:Int)+1)));have s0:((w.drewN nq).setCell ⟨tx,1,none⟩ (.int .i64 ((a:Int)+1))).cell? ⟨tx,0,none⟩=some (.slice (some ⟨b,off,none⟩) l.length c):=HROW.out.cell (i:=0) (by omega);have s1:((w.drewN nq).setCell ⟨tx,1,none⟩ (.int .i64 ((a:Int)+1))).cell? ⟨tx,1,none⟩=some (.int .i64 ((a:Int)+1)):=by
   have:=HROW.out.cell (i:=1) (by omega);grind [Fy]
  have s2:((w.drewN nq).setCell ⟨tx,1,none⟩ (.int .i64 ((a:Int)+1))).cell? ⟨b,off+a,none⟩=some (.int .i8 z):=nJ HG.out hc hbt;have a1:IntKind.i64.wrap ((a:Int)+1-1)=(a:Int):=by grind [IntWalk.i64_in]
  have a2:(a:Int)<(l.length:Int):=by omega
  clear t0 t1 t2 hc hrow;generalize(w.drewN nq).setCell ⟨tx,1,none⟩ (.int .i64 ((a:Int)+1))=w3 at*
  go_quiet (fail)
  go_wp2_with fail
  go_ret
  rw[HZ.out,HNx.out];exact⟨rfl,nk HROW.out _,iO HG.out (eJ ((Ext.refl _).drewN _) tx)⟩
 go_enter func61,ntmps61
 have HZ:Hid (l.getD a 0=0):=XL (by grind);have HNx:Hid (gh l a=a):=XL (if_neg hlt)
 go_wp2_with fail
 go_quiet (fail)
 go_wp2_with fail
 go_ret
 rw[HZ.out,HNx.out];exact⟨rfl,nk HT.out _,eJ ((Ext.refl _).drewN _) tx⟩
def f8 (z:Int):List PV:=[.raw (.int .i8 z)]
abbrev J3 (L:List Int) (a:Nat):List PV:=[.sl (ls f8 L),.raw (.int .i64 (a:Int))]
abbrev cH (b:Nat):TV:= .raw (.pointer (some ⟨b,0,none⟩))
def I8 (L:List Int):Prop:= ∀z∈L,-128<=z/\z<=127
theorem I8.getD (h:I8 e) (a:Nat): -128<=e.getD a 0/\e.getD a 0<=127:=by
 rw[Yf];cases b:e[a]? with
 |none=>simp
 |some z=>exact h z (XH b)
theorem QR (h:bO b w (.sl (ls f8 e)) f): ∃A c,f= .slice A e.length c/\e.length<=9223372036854775807/\RdI .i8 w A e/\(e≠[]-> ∀p,A=some p-> ¬b p.block):=by
 generalize m:PV.sl (ls f8 e)=x at h;cases h with
 |raw f h=>cases m
 |ptr g n G j B C s u=>cases m
 |nil a c=>
  injection m with m
  have E:e=[]:=by simp_all[ls]
  subst E;exact⟨a,c,rfl,by simp,RdI.nil _ _ _,fun h=>absurd rfl h⟩
 |sl g n y cap L j B C r o t s u=>
  injection m with m
  subst m;rw[dE]at o t;refine⟨some ⟨g,n,none⟩,cap,by rw[dE],t,fun F=>⟨g,n,rfl,fun i x m=>?_⟩,fun _ p J=>by grind⟩;rw[XK]at m;obtain⟨z,K,rfl⟩:=XI.1 m;have q:(ls f8 e)[i]?=some (f8 z):=by grind [fh]
  have D:y=1:=by rw[<- r _ (XH q)];rfl
  subst D;have H:=s i _ 0 _ q rfl;have I:=nY (u i _ 0 _ q rfl);grind
theorem KM (b:Nat) (L:List Int) (a:Nat) (U:I8 L) (W:a<=L.length):gn prog b 104 61 [cH b] (J3 L a) ⟨[],.raw (.int .i64 (L.getD a 0))⟩ (J3 L (gh L a)):=by
 refine⟨by kernel_rfl,fun X w vs V B s aa l=>?_⟩;obtain⟨cells,c,P,Q,R,S,T,I⟩:=s;obtain⟨v0,e0,r0⟩:=l 0 _ rfl;have H:v0= .pointer (some ⟨b,0,none⟩):=nY r0;subst H;obtain rfl:vs= #[.pointer (some ⟨b,0,none⟩)]:=by
  grind
 obtain⟨v,c0,_,O⟩:=I 0 _ rfl;obtain⟨u,c1,_,r2⟩:=I 1 _ rfl;have M:=nY r2;subst M;obtain⟨A,cap,rfl,hl,F,Y⟩:=QR O;have G:cells.size=c*2:=Q;have z:w.rowIs b 104 (c*2) (Fy (.slice A L.length cap) a fun j=>(cells[j]?).getD undef):=by
  refine⟨cells,P,G,fun i hi=>?_⟩;grind [Fy]
 have q:L≠[]-> ∀p,A=some p->p.block≠b:=fun y p K Z=>Y y p K (by rw[Z];exact B)
 refine(Jr b (c*2) A cap L a _ w (by omega) F U hl W z q).mono fun e w' ⟨q1,⟨f,q2,q3,N⟩,n⟩=>?_
 have t: ∀k,k<w.heap.size->k≠b->w'.heap[k]?=w.heap[k]?:=fun k D y=>n.block k D (by grind)
 have C: ∀j,Xo X (fun _ _=>none) (famH 0 []) j->X j:=fun j m=>by
  rcases m with m|⟨_,_,_,_,_,g⟩
  ·exact m
  cases g
 refine⟨_,q1,fun _ _=>none,?_,bO.raw _ rfl,f,c,q2,q3,R,S,T,fun j x h=>?_⟩
 ·have e: ∀a,famH 0 [] a=[]:=fun a=>by grind [famH]
  refine⟨⟨n.os,n.tape,n.output,n.size,fun k D J=>t k D J⟩,fun a r o E=>?_,fun a r a' r' o o' b c c' E=>?_,fun a r o b c E=>?_,fun j m=>XZ (V j m) n.size,fun a r o E=>?_⟩<;>(grind)
 match j,h with
 |0,h=>
  have h:x= .sl (ls f8 L):=by grind
  subst h;refine⟨.slice A L.length cap,N 0 (by omega),rfl,O.later (fun j _ m=>C j m) n.size fun p u K J M=>?_⟩;grind [iq]
 |1,h=>
  have h:x= .raw (.int .i64 (gh L a:Nat)):=by grind
  subst h;exact⟨_,N 1 (by omega),rfl,bO.raw _ rfl⟩
 |j+2,h=>simp at h
def mv (L:List Int) (a n:Nat):Nat:=((L.getD a 0)%256).toNat%n
theorem lN {n:Nat} (L:List Int) (a:Nat) (h:0<n):mv L a n<n:=Yk _ h
theorem Iy (L:List Int) (a n:Nat):Int.tmod (L.getD a 0%256) (n:Int)=(mv L a n:Int):=by
 grind [mv]
theorem U0 (x:Int):IntKind.u8.wrap x=x%256:=by rfl
theorem rG {a:Nat} (h:a<=e.length):gh e a<=e.length:=by grind [gh]
theorem y7 (b:Nat) (L:List Int) (a n:Nat) (g:I8 L) (h:a<=L.length) (j:0<n) (l:n<=100):gn prog b 104 82 [cH b,.raw (.int .i64 (n:Int))] (J3 L a) ⟨[],.raw (.int .i64 (mv L a n:Int))⟩ (J3 L (gh L a)):=by
 have c:=KM b L a g h;have e:=Iy L a n;have f:=U0 (L.getD a 0);refine jJ func82 rfl (by kernel_rfl) ?_;rw[ntmps82];refine D3 @cH.eq_1 (k:=?_);refine ri 1 c [] [] (by kernel_rfl) (by rfl) (by rfl) fun _ K=>?_;simp(disch:=omega) only[kd,List.map,cH,aa,f,aP,e];apply K
 (refine lI ⟨.inr rfl,rfl,b9 rfl ?_ rfl⟩;simp(disch:=omega) only[kd,results82])
section
def Hl (r:List Int):OObj:=⟨2,1,lc fI r⟩
abbrev kI (d n c i:Nat) (f:FF):List OObj:=⟨35,1,jU d (ae i c)++ae (n-i) tb⟩::(mat i c f).map Hl
abbrev l8 (d n c:Nat) (f:FF):List OObj:=⟨35,1,jU d (ae n c)⟩::(mat n c f).map Hl
theorem ER (d n c:Nat) (f:FF):kI d n c n f=l8 d n c f:=by simp
theorem mW {i n:Nat} (d c:Nat) (h:i<=n):(jU d (ae i c)++ae (n-i) tb).length=n:=by grind [cO]
theorem vp {i k n:Nat} (d c:Nat) (h:k<i):(jU d (ae i c)++ae (n-i) tb)[k]?=some [.sl d (k+1) 0 c]:=by
 grind [cO,cd]
theorem zL {i n:Nat} (d c:Nat) (h:i<n):(jU d (ae i c)++ae (n-i) tb)[i]?=some tb:=by
 grind [cO]
theorem dO {n i:Nat} (c:Nat) (f:FF) (h:i<n):((mat n c f).map Hl)[i]?=some ⟨2,1,lc fI (aN c (f i))⟩:=by
 rw[XK,bu _ _ h];rfl
theorem gV {n i j:Nat} (c:Nat) (f:FF) (v:Int):((mat n c f).map Hl).set i ⟨2,1,(lc fI (aN c (f i))).set j [.p (.raw (.int .i64 v))]⟩=(mat n c (upd f i j v)).map Hl:=by
 have e:(⟨2,1,(lc fI (aN c (f i))).set j [.p (.raw (.int .i64 v))]⟩:OObj)=Hl (aN c fun b=>if b=j then v else f i b):=by
  rw[<- nj,Hl,<- vw];rfl
 rw[e,<- aaR,G4];rfl
theorem gd {g:FF} (h: ∀i j,i<n->j<m->c i j=g i j):(mat n m c).map Hl=(mat n m g).map Hl:=by rw[gA h]
theorem tC {i n c:Nat} (d:Nat) (f:FF) (l:i<n) (e: ∀j,j<c->f i j=0):
  (⟨35,1,(jU d (ae i c)++ae (n-i) tb).set i [.sl d (i+1) 0 c]⟩::((mat i c f).map Hl++[⟨2,1,ae c [.raw (.int .i64 0)]⟩]):List OObj)=kI d n c (i+1) f:=by
 have g:(jU d (ae i c)++ae (n-i) tb).set i [.sl d (i+1) 0 c]=jU d (ae (i+1) c)++ae (n-(i+1)) tb:=by
  rw[Zm _ _ (by simp[cO]),cO,Yq,Zj,Z2 (n:=i),qy,Yq,Ye]
  congr 1
  rw[show n-i=n-(i+1)+1 by omega,Z5];rfl
 have h:(⟨2,1,ae c [.raw (.int .i64 0)]⟩:OObj)=Hl (aN c (f i)):=by
  rw[Hl]
  congr 1
  apply X7;intro j;rw[YF,zQ];by_cases b:j<c
  ·rw[if_pos b,az _ b,e j b];rfl
  grind [aH]
 grind [CA]
theorem dA (d e n c:Nat) (f:FF):(l8 d n c f).map (renO e)=l8 e n c f:=by
 grind [renO,Ht,List.map_congr_left,Hl,jL]
theorem ff {d n c:Nat} {f:FF} (h:g d=l8 d n c f):s9 g d:=fun r o b e j x m=>by
 rw[h]at b;cases r with
 |succ r=>
  rw[Ze,XK]at b;obtain⟨l,p,rfl⟩:=XI.1 b;exact .inl (bi _ _ l e j x m)
 |zero=>
  grind [List.mem_iff_getElem?,cO,cd,Hl,bi,bu]
theorem vi {H:OH} {d n c:Nat} {f:FF} (h:H d=l8 d n c f):fb H d (.one (.sl d 0 0 n))=dq (mat n c f):=by
 have e:((jU d (ae n c)).map (List.map (mq H d)))=ls (fR fI) (mat n c f):=by
  apply X7;intro i;rw[XK,fh];by_cases b:i<n
  ·rw[cd d c b,bu _ _ b];simp only[Yp,X9,Yu,mq,h,Ze,dO _ _ b,fR,fQ,zP,nK];grind [aH]
  grind [cO,aS]
 grind [fb,dD,cO]
abbrev TP (k:Nat) (b:Bool):TV:= .tup [(false,[.sl 0 0 0 k]),(false,[.p (.raw (.bool b))])]
theorem Ui {f:Func} {d k:Nat} {b:Bool} {s:AS} (j:s.H d=l8 d k n c) (e:o7 prog s f.results.toList=some (.tup [(false,[.sl d 0 0 k]),(false,[.p (.raw (.bool b))])])) (h:d<=4999):
  ∃g,bv s g/\mB prog f ⟨l8 0 k n c,TP k b⟩ g:=
 ⟨s,bv.refl s,_,d,e,wE (by simp[selfTV,bz]) h,by rw[j,dA],rfl⟩
section
variable {P:Program} {fu:FuncId} {args:List TV} {n c:Nat} {g:FF}
theorem CallC.fzI (h:CallC P fu args ⟨l8 0 n c g,.one (.sl 0 0 0 n)⟩):CallC P fu args ⟨[],dq (mat n c g)⟩:=
 h.weak ((bF 0 (ff (d:=0) (n:=n) (c:=c) (f:=g) rfl)).trans (aj (tm:=[dq (mat n c g)]) (l:=[(0,[])]) ⟨rfl,trivial⟩ (by
  grind [wk,vi,famH])))
end
def kH (L:List Int) (a:Nat):Nat->Nat
 |0=>a
 |i+1=>gh L (kH L a i)
theorem zo {L:List Int} {a:Nat} (h:a<=L.length): ∀i,kH L a i<=L.length
 |0=>h
 |i+1=>rG (zo h i)
def gJ (L:List Int) (a b:Nat):Nat->Nat->Int:=fun i j=>if i=j then 1+(mv L (kH L a i) b:Int)else 0
def Kz (L:List Int) (a b i:Nat):Nat->Nat->Int:=fun x y=>if x<i then gJ L a b x y else 0
theorem LF (L:List Int) (a b i x y:Nat):upd (Kz L a b i) i i (1+(mv L (kH L a i) b:Int)) x y=Kz L a b (i+1) x y:=by
 unfold upd Kz gJ;by_cases c:x=i
 ·subst c;grind
 have:x<i+1↔x<i:=by omega
 simp_all
theorem lT (b:Nat) (L:List Int) (a n f:Nat) (r:I8 L) (s:a<=L.length) (C:n<=8) (h:0<f) (p:f<=100):
  gn prog b 104 83 [cH b,.raw (.int .i64 (n:Int)),.raw (.int .i64 (f:Int))] (J3 L a) ⟨l8 0 n n (gJ L a f),.one (.sl 0 0 0 n)⟩ (J3 L (kH L a n)):=by
 refine jJ func83 rfl (by kernel_rfl) ?_;rw[ntmps83];refine D3 @cH.eq_1 (k:=cB (k:=bZ (cB (k:=?_))));refine jE (G:=jW n) (fun g=>⟨(cH b::rN n::rN f::j4 (.one (.sl 10 0 0 n)::j4 (.raw (.int .i64 (n:Int))::rN g.i::j16 (jk::jk::jk::[])))),Hm [(10,kI 10 n n g.i (Kz L a f g.i))]⟩) (fun g=>J3 L (kH L a g.i)) (fun g=>n-g.i) ⟨0,by omega⟩ ?_ rfl ?_
 ·refine aj ⟨?_,trivial⟩ ?_
  ·rfl
  simp[wk]
 rintro⟨i,u⟩;simp only;by_cases o:i<n
 ·have q:=y7 b L (kH L a i) f r (zo s i) h p;have t:=lN (n:=f) L (kH L a i) h;have v:=zL (i:=i) (n:=n) 10 n o;have D:=mW (i:=i) (n:=n) 10 n u;have w:=aS i n (Kz L a f i);have x:=tC (i:=i) (n:=n) (c:=n) 10 (Kz L a f i) o (fun j B=>by grind [Kz]);have y:=vp (i:=i+1) (k:=i) (n:=n) 10 n (by omega);have E:=mW (i:=i+1) (n:=n) 10 n (by omega);have z:=dO (n:=i+1) n (Kz L a f i) (i:=i) (by omega);have A:=az (Kz L a f i i) o;refine j5 @cH.eq_1 (k:=rh rfl (bZ (cz (cB (k:=j5 (aE v (aE @Yq (aE @ZR (aE w x)))) (k:=?_))))));refine dG.weak (aj (tm:=(cH b::rN n::rN f::j4 (.one (.sl 10 0 0 n)::rN i::jk::jk::jk::rN n::rN i::j16 (jk::jk::jk::[])))) (l:=[(10,kI 10 n n (i+1) (Kz L a f i))]) ⟨?_,trivial⟩ (by simp[wk])) ?_
  ·rfl
  refine jF ch 7 q [] [] (by kernel_rfl) (by kernel_rfl) (by rfl) (by rfl) fun _ K=>?_;simp(disch:=omega) only[kd,cH,aa,y,aP,z,A,gV];apply K
  show dG _ _ _ _ _ _ _;refine sY (k:=?_);refine⟨⟨i+1,by omega⟩,by grind,aj ⟨?_,trivial⟩ ?_,rfl⟩
  ·show _::_=_::_;grind [gd,LF]
  simp[wk]
 have m:i=n:=by omega
 subst m;refine j5 @cH.eq_1 (k:=rc rfl ?_);show dG _ _ _ _ _ _ _;have e:kI 10 i i i (Kz L a f i)=l8 10 i i (gJ L a f):=by
  grind [gd,Kz]
 rw[e];refine cB (k:=?_);refine lI ⟨.inr rfl,rfl,_,bv.refl _,?_⟩;refine⟨.one (.sl 10 0 0 i),10,?_,rfl,?_,rfl⟩
 ·simp(disch:=omega) only[kd,results83]
 grind [dA]
end
theorem Rl (m:Nat):swp (m+1) m idF=NW m:=by
 grind [swp,NW,pa]
def Vb (n:Nat) (f:FF):Option Ch->TV
 |none=> .tup [(false,[.p (.raw (.slice none 0 0))]),(false,[.p (.raw (.bool false))])]
 |some c=> .tup [(false,[.p (.sl (ls (fR fZ) (mat n n (R8 f c))))]),(false,[.p (.raw (.bool true))])]
structure Xr (n:Nat) (f:FF) where
 i:Nat
 hi:i<=n
 h:scanF f n=scanI f (n-i) i
structure Xs (i:Nat) (f:FF) where
 k:Nat
 hk:k<=i
 h:scanJ f i i=scanJ f i k
theorem Ux (n:Nat) (f:FF) (t:1<=n) (T:n<=8) (U: ∀k,k<n->0<dk f (k+1)) (r: ∀i j,i<n->j<n->Sz (f i j) 1024):
  CallC prog 57 [dZ (mat n n f)] ⟨[],Vb n f (scanF f n)⟩:=by
 have N:=xv n f t (by omega) r;have M:=t8 n t (by omega);have s:=aS n n f;refine aB func57 rfl ntmps57 (aC (k:=iH [⟨1,_,_,_,N⟩] @Wi.eq_1 (k:=iH [⟨2,_,_,_,M⟩] s (k:=ai (f5 s (k:=?_))))));refine aG (G:=Xr n f) (fun g=>⟨(dZ (mat n n f)::jk::jk::jk::OV (GX n f)::jk::.one (.sl 18 0 0 n)::j4 (j4 (j4 (jk::jk::jk::rN n::rN g.i::j16 (j16 (j16 (j4 (j4 (jk::jk::jk::[]))))))))),Hm [(18,i5 18 n n idF)]⟩) (fun g=>n-g.i) ⟨0,by omega,rfl⟩ ?_ ?_
 ·refine aj ⟨?_,trivial⟩ ?_
  ·exact fS 0 18 n n _
  simp[wk]
 rintro⟨i,R,C⟩;simp only;by_cases m:i<n
 ·have v:scanI f (n-i) i=match scanJ f i i with
   |some j=>some (.add i j)
   |none=>if 0<i/\ ¬ou f i then some (.swp (i-1))else scanI f (n-(i+1)) (i+1):=by
   rw[show n-i=n-(i+1)+1 by omega];rfl
  refine ar (k:=bA rfl (ai (am (bH (k:=ai (ar (k:=?_)))))));refine aG (G:=Xs i f) (fun g=>⟨(dZ (mat n n f)::jk::jk::jk::OV (GX n f)::jk::.one (.sl 18 0 0 n)::jk::rN i::.raw (.int .i64 ((g.k:Int)-1))::j4 (j4 (j4 (.raw (.int .i64 (n:Int))::rN i::j16 (j16 (j16 (j4 (j4 (jk::jk::jk::[]))))))))),Hm [(18,i5 18 n n idF)]⟩) (fun g=>g.k) ⟨i,by omega,rfl⟩ ?_ ?_
  ·refine aj ⟨rfl,trivial⟩ ?_;simp[wk]
  rintro⟨k,S,q⟩;simp only;cases k with
  |zero=>
   refine ai (ar (k:=ao rfl (be ?_)));show bs _ _ _ _;have w:scanJ f i i=none:=q;rw[w]at v;by_cases K:0<i
   ·have e:=KJ n f i (by omega) m K r;by_cases o:ou f i
    ·rw[decide_eq_true (show 3*(dd f i*dd f i)<=4*(dd f (i-1)*dd f (i+1)+lam f i (i-1)*lam f i (i-1))from o)]at e;have b:scanF f n=scanI f (n-(i+1)) (i+1):=by grind
     refine bL [⟨6,_,_,_,e⟩] (k:=ao rfl (ak (bK (k:=?_))));refine⟨⟨i+1,by omega,b⟩,by grind,aj ⟨rfl,trivial⟩ ?_⟩;simp[wk]
    rw[decide_eq_false (show ¬3*(dd f i*dd f i)<=4*(dd f (i-1)*dd f (i+1)+lam f i (i-1)*lam f i (i-1))from o)]at e;have b:scanF f n=some (.swp (i-1)):=by grind
    rw[b];have O:((i:Int)-1).toNat=i-1:=by omega
    have x:=cd (n:=n) (i:=i) 18 n m;have y:=cd (n:=n) (i:=i-1) 18 n (by omega);have J:((jU 18 (ae n n)).set i [.sl 18 (i-1+1) 0 n])[i-1]?=some [.sl 18 (i-1+1) 0 n]:=by
     grind
    refine bL [⟨6,_,_,_,e⟩] (k:=aD rfl (gQ (aE O (aE y (aE x J))) (k:=?_)));refine bs.weak ((Ge 18 (i+1) (i-1+1) (i5 18 n n (swp i (i-1) idF)) (G8 idF m (by omega) (by omega))).trans (aj (tm:=(j4 (jk::jk::.one (.sl 18 0 0 n)::j16 (j16 (j16 (j16 (j4 (j4 (j4 ([])))))))))) (l:=[(18,i5 18 n n (swp i (i-1) idF))]) ⟨rfl,trivial⟩ (by simp[wk,UD,mb,V4,fi,Rk,Mf,sw]))) ?_;rw[show swp i (i-1) idF=NW (i-1) by grind [Rl]];refine bs.weak ((bF 18 (ke rfl)).trans (aj (tm:=(j4 (jk::jk::dZ (mat n n (NW (i-1)))::j16 (j16 (j16 (j16 (j4 (j4 (j4 ([])))))))))) (l:=[]) trivial (by simp[wk];exact(Sf (H:=Hm [(18,i5 18 n n (NW (i-1)))]) (d:=18) (n:=n) (c:=n) (f:=NW (i-1)) rfl).symm))) ?_;refine bH (k:=aF (aE @results57 (aE @Vb.eq_1 @R8.eq_1)))
   have z:i=0:=by omega
   subst z;have b:scanF f n=scanI f (n-(0+1)) (0+1):=by grind
   refine ar (k:=ao rfl (ak (bK (k:=?_))));refine⟨⟨1,by omega,b⟩,by grind,aj ⟨rfl,trivial⟩ ?_⟩;simp[wk]
  |succ j=>
   have P:((j+1:Nat):Int)-1=(j:Int):=by omega
   rw[P];have e:=Pb n f i j (by omega) m (by omega) r;by_cases o:jX f i j
   ·rw[decide_eq_true (show 2*((lam f i j).natAbs:Int)<=dd f (j+1)from o)]at e;have b:scanJ f i i=scanJ f i j:=by rw[q];exact if_pos o
    refine ai (ar (k:=aD rfl (ak (ai (am (bQ [⟨4,_,_,_,e⟩] (k:=ao rfl (ak (bK (k:=?_))))))))));refine⟨⟨j,by omega,b⟩,by simp,aj ⟨rfl,trivial⟩ ?_⟩;simp[wk]
   rw[decide_eq_false (show ¬2*((lam f i j).natAbs:Int)<=dd f (j+1)from o)]at e;have b:scanJ f i i=some j:=by rw[q];exact if_neg o
   have u:scanF f n=some (.add i j):=by grind
   rw[u,show Vb n f (some (.add i j))= .tup [(false,[.p (.sl (ls (fR fZ) (mat n n (upd idF j i (cF f i j)))))]),(false,[.p (.raw (.bool true))])]from rfl];have h:0<dd f (j+1):=by grind [j9]
   have D:=ES (n:=n) (i:=i) (j:=j) (by omega) m (by omega) r;have F:=BU (n:=n) (k:=j+1) (by omega) (by omega) r;have d1:=ud n f i j (by omega) m (by omega) r;have d2:=pW n f (j+1) (by omega) (by omega);rw[show((j+1:Nat):Int)=(j:Int)+1 by omega]at d2;have d3:=DN (lam f i j) (dd f (j+1)) h (D.mono (by omega)) (F.mono (by omega));have B:=oU (n:=lam f i j) h;have d4:=Ie (nN (lam f i j) (dd f (j+1))) (nD (lam f i j) (dd f (j+1))) B ((yk D).mono (by omega)) ((yj F).mono (by omega));rw[WO h]at d4;have sq:Sz (qF (lam f i j) (dd f (j+1))) 67174401:=by
    have Q:=Ff (l:=lam f i j) h;have L:Sz ((lam f i j).natAbs+1:Int) (67174400+1):=Sz.add (D.le (by omega)) (pe (by omega));exact L.le (by omega)
   have d5:=MQ (qF (lam f i j) (dd f (j+1))) (sq.mono (by omega));rw[show -(qF (lam f i j) (dd f (j+1)))=cF f i j from rfl]at d5;have x:=cd (n:=n) (i:=j) 18 n (by omega);have y:=fT n idF (show j<n by omega);have I:=az (idF j) m;generalize cF f i j=E at*
   generalize qF (lam f i j) (dd f (j+1))=X at*
   generalize nN (lam f i j) (dd f (j+1))=V at*
   generalize nD (lam f i j) (dd f (j+1))=W at*
   refine ai (ar (k:=aD rfl (ak (ai (am (bQ [⟨4,_,_,_,e⟩] (k:=aD rfl (j1 [⟨8,_,_,_,d1⟩,⟨12,_,_,_,d2⟩,⟨13,_,_,_,d3⟩,⟨14,_,_,_,d4⟩,⟨15,_,_,_,d5⟩] (aE x (aE y (aE I @l9))) (k:=?_)))))))));refine bs.weak ((aj (tm:=(j4 (jk::jk::.one (.sl 18 0 0 n)::j16 (j16 (j16 (j16 (j4 (j4 (j4 ([])))))))))) (l:=[(18,i5 18 n n (upd idF j i E))]) ⟨rfl,trivial⟩ (by simp[wk])).trans ((bF 18 (ke rfl)).trans (aj (tm:=(j4 (jk::jk::dZ (mat n n (upd idF j i E))::j16 (j16 (j16 (j16 (j4 (j4 (j4 ([])))))))))) (l:=[]) trivial (by
    simp[wk];grind [Sf,Hm])))) ?_
   refine bH (k:=aF @results57)
 have A:i=n:=by omega
 subst A;have b:scanF f i=none:=by rw[C,Zj];rfl
 rw[b];refine ar (k:=bG rfl (bH (k:=aF (aE @results57 @Vb.eq_1))))
def WP (L:List Int) (i k:Nat) (s:(Nat->Nat->Int)×Nat):(Nat->Nat->Int)×Nat:=(upd (upd s.1 i k (Int.tmod (L.getD s.2 0) 3)) k i (Int.tmod (L.getD s.2 0) 3),gh L s.2)
def OT (L:List Int) (i:Nat) (s:(Nat->Nat->Int)×Nat):Nat->(Nat->Nat->Int)×Nat
 |0=>s
 |k+1=>WP L i k (OT L i s k)
def pg (L:List Int) (s:(Nat->Nat->Int)×Nat):Nat->(Nat->Nat->Int)×Nat
 |0=>s
 |i+1=>OT L i (pg L s i) i
theorem EQ {L:List Int} {i:Nat} {s:(Nat->Nat->Int)×Nat} (h:s.2<=L.length): ∀k,(OT L i s k).2<=L.length
 |0=>h
 |k+1=>rG (EQ h k)
theorem EP {L:List Int} {s:(Nat->Nat->Int)×Nat} (h:s.2<=L.length): ∀i,(pg L s i).2<=L.length
 |0=>h
 |i+1=>EQ (EP h i) i
theorem OD (f:FF) (i j:Nat) (v:Int):upd f i j v i j=v:=by simp[upd]
theorem IY (b:Nat) (L:List Int) (a n:Nat) (j:I8 L) (w:a<=L.length) (I:n<=8):
  gn prog b 104 80 [cH b,.raw (.int .i64 (n:Int))] (J3 L a) ⟨l8 0 n n (pg L (gJ L a 6,kH L a n) n).1,.one (.sl 0 0 0 n)⟩ (J3 L (pg L (gJ L a 6,kH L a n) n).2):=by
 have u:=lT b L a n 6 j w I (by omega) (by omega);rw[show((6:Nat):Int)=6 from rfl]at u;have o:(gJ L a 6,kH L a n).2<=L.length:=zo w n;refine jJ func80 rfl (by kernel_rfl) ?_;rw[ntmps80];refine D3 @cH.eq_1 (k:=?_);refine ri 2 u [] [] (by kernel_rfl) (by rfl) (by rfl) fun _ K=>?_;simp only[kd,cH,aa];apply K
 refine bZ (cB (k:=?_));refine jE (G:=jW n) (fun g=>⟨(cH b::j4 (.one (.sl 10 0 0 n)::j4 (jk::jk::rN n::rN g.i::j16 (j4 (j4 (j4 (jk::jk::jk::[]))))))),Hm [(10,l8 10 n n (pg L (gJ L a 6,kH L a n) g.i).1)]⟩) (fun g=>J3 L (pg L (gJ L a 6,kH L a n) g.i).2) (fun g=>n-g.i) ⟨0,by omega⟩ ?_ rfl ?_
 ·refine aj ⟨?_,trivial⟩ ?_
  ·exact dA 0 10 n n _
  simp[wk]
 rintro⟨i,M⟩;simp only;have q:=EP o i;by_cases h:i<n
 ·refine j5 @cH.eq_1 (k:=rh rfl (bZ (cz (cB (k:=cB (k:=?_))))));refine jE (G:=jW i) (fun g=>⟨(cH b::j4 (.one (.sl 10 0 0 n)::rN i::rN g.i::j4 (.raw (.int .i64 (n:Int))::rN i::j16 (j4 (j4 (j4 (jk::jk::jk::[]))))))),Hm [(10,l8 10 n n (OT L i (pg L (gJ L a 6,kH L a n) i) g.i).1)]⟩) (fun g=>J3 L (OT L i (pg L (gJ L a 6,kH L a n) i) g.i).2) (fun g=>i-g.i) ⟨0,by omega⟩ ?_ rfl ?_
  ·refine aj ⟨rfl,trivial⟩ ?_;simp[wk]
  rintro⟨k,N⟩;simp only;have e:=EQ (i:=i) q k;by_cases H:k<i
  ·have r:OT L i (pg L (gJ L a 6,kH L a n) i) (k+1)=WP L i k (OT L i (pg L (gJ L a 6,kH L a n) i) k):=rfl;generalize OT L i (pg L (gJ L a 6,kH L a n) i) k=s at*
   obtain⟨f,p⟩:=s;simp only at e⊢;have F:=KM b L p j e;have J:=j.getD p;have t:=cd (n:=n) (i:=i) 10 n h;have y:=cd (n:=n) (i:=k) 10 n (by omega);have z:=dO n f h;have A:=az (f i) (show k<n by omega);have c:WP L i k (f,p)=(upd (upd f i k (Int.tmod (L.getD p 0) 3)) k i (Int.tmod (L.getD p 0) 3),gh L p):=rfl;obtain⟨v,x⟩: ∃v,Int.tmod (L.getD p 0) 3=v:=⟨_,rfl⟩;rw[x]at c;have B:=dO n (upd f i k v) h;have C:=dO n (upd f i k v) (show k<n by omega);have D:(aN n (upd f i k v i))[k]?=some v:=by grind [az,OD]
   have E:=az (upd f i k v k) h;refine bZ (j5 @cH.eq_1 (k:=gO rfl (iG (bZ (cz ?_)))));refine D2 ch 6 F [] [] (by kernel_rfl) (by kernel_rfl) (by rfl) (by rfl) fun _ K=>?_;simp(disch:=omega) only[kd,cH,aa,t,x,z,A,gV];apply K
   refine S8 (aE y (aE t (aE B (aE D (aE C (aE E @gV)))))) (k:=sY (k:=?_));refine⟨⟨k+1,by omega⟩,by grind,aj ⟨?_,trivial⟩ ?_,?_⟩
   ·rw[r,c];rfl
   ·simp[wk]
   grind
  have m:k=i:=by omega
  subst m;refine bZ (j5 @cH.eq_1 (k:=cb rfl (Bw (sY (k:=?_)))));refine⟨⟨k+1,by omega⟩,by grind,aj ⟨rfl,trivial⟩ ?_,rfl⟩;simp[wk]
 have l:i=n:=by omega
 subst l;refine j5 @cH.eq_1 (k:=rc rfl (cB (k:=?_)));refine lI ⟨.inr rfl,rfl,_,bv.refl _,?_⟩;refine⟨.one (.sl 10 0 0 i),10,?_,rfl,?_,rfl⟩
 ·simp(disch:=omega) only[kd,results80]
 grind [dA]
def Pv (b:Bool) (n i:Nat):Nat:=if b=true/\i+1=n/\3<n then i-2 else i-1
def ju (b:Bool) (n:Nat):Nat->Nat->Nat->Int
 |0=>fun _ _=>0
 |i+1=>if i=0 then upd (ju b n i) i i 2 else upd (upd (upd (ju b n i) i i 2) i (Pv b n i) (-1)) (Pv b n i) i (-1)
theorem Lw {fork:Bool} {n i:Nat} (h:0<i):Pv fork n i<i:=by grind [Pv]
theorem F0 {i a:Nat} (h:a≠i\/m≠n):upd c i n x a m=c a m:=by
 unfold upd;by_cases e:a=i
 ·simp_all
 simp[e]
theorem BM (c:Bool) (n:Nat): ∀i a b,i<=a\/i<=b->ju c n i a b=0
 |0,_,_,_=>rfl
 |i+1,a,b,h=>by
  have f:=BM c n i a b (by omega);unfold ju;split
  ·grind [F0]
  rename_i e;have:=Lw (fork:=c) (n:=n) (show 0<i by omega);grind [F0]
theorem Gp (n:Nat) (b:Bool) (J:n<=8):
  CallC prog 81 [.raw (.int .i64 (n:Int)),.raw (.bool b)] ⟨l8 0 n n (ju b n n),.one (.sl 0 0 0 n)⟩:=by
 refine aB func81 rfl ntmps81 (aC (k:=ar (k:=ai (bH (k:=?_)))));refine aG (G:=jW n) (fun g=>⟨(.raw (.int .i64 (n:Int))::.raw (.bool b)::jk::jk::jk::.one (.sl 9 0 0 n)::j4 (jk::rN n::rN g.i::j16 (j16 (j4 (j4 (j4 ([]))))))),Hm [(9,kI 9 n n g.i (ju b n g.i))]⟩) (fun g=>n-g.i) ⟨0,by omega⟩ ?_ ?_
 ·refine aj ⟨?_,trivial⟩ ?_
  ·rfl
  simp[wk]
 rintro⟨i,A⟩;simp only;by_cases m:i<n
 ·have C:=zL (i:=i) (n:=n) 9 n m;have K:=mW (i:=i) (n:=n) 9 n A;have D:=aS i n (ju b n i);have E:=tC (i:=i) (n:=n) (c:=n) 9 (ju b n i) m (fun j I=>BM b n i i j (by omega));have s:=vp (i:=i+1) (k:=i) (n:=n) 9 n (by omega);have L:=mW (i:=i+1) (n:=n) 9 n (by omega);have F:=dO (n:=i+1) n (ju b n i) (i:=i) (by omega);have H:=az (ju b n i i) m;have h:ju b n (i+1)=if i=0 then upd (ju b n i) i i 2 else upd (upd (upd (ju b n i) i i 2) i (Pv b n i) (-1)) (Pv b n i) i (-1):=rfl
  generalize ju b n i=f at*
  refine ar (k:=bA rfl (ai (am (bH (k:=aK (aE C (aE @Yq (aE @ZR D))) (k:=?_))))));refine bs.weak (aj (tm:=(.raw (.int .i64 (n:Int))::.raw (.bool b)::jk::jk::jk::.one (.sl 9 0 0 n)::rN i::j4 (.raw (.int .i64 (n:Int))::rN i::j16 (j16 (j4 (j4 (j4 ([])))))))) (l:=[(9,kI 9 n n (i+1) f)]) ⟨?_,trivial⟩ (by simp[wk])) ?_
  ·first|exact E|rfl
  refine aK (aE s (aE F (aE H @gV))) (k:=ar (k:=?_));obtain⟨o,e⟩: ∃o:Int,o=if b=true/\i+1=n/\3<n then(i:Int)-2 else(i:Int)-1:=⟨_,rfl⟩
  refine ai (nB (S:=⟨(.raw (.int .i64 (n:Int))::.raw (.bool b)::jk::jk::jk::.one (.sl 9 0 0 n)::rN i::.raw (.int .i64 o)::jk::jk::jk::rN n::rN i::j16 (j16 (j4 (j4 (j4 ([])))))),Hm [(9,kI 9 n n (i+1) (upd f i i 2))]⟩) ?_ ?_)
  ·cases b with
   |false=>
    rw[if_neg (by simp)]at e;refine ar (k:=ao rfl (ak ?_));show bv _ _;refine aj ⟨rfl,trivial⟩ ?_;simp[wk,e]
   |true=>
    by_cases y:i+1=n
    ·by_cases z:3<n
     ·rw[if_pos ⟨rfl,y,z⟩]at e;refine ar (k:=aD rfl (bK (k:=?_)));refine aj ⟨rfl,trivial⟩ ?_;simp[wk,e]
     rw[if_neg (by omega)]at e;refine ar (k:=ao rfl (ak ?_));show bv _ _;refine aj ⟨rfl,trivial⟩ ?_;simp[wk,e]
    rw[if_neg (by omega)]at e;refine ar (k:=ao rfl (ak ?_));show bv _ _;refine aj ⟨rfl,trivial⟩ ?_;simp[wk,e]
  by_cases r:i=0
  ·subst r;rw[if_neg (by omega)]at e;rw[if_pos rfl]at h;refine ar (k:=ao rfl (ak (bK (k:=?_))));refine⟨⟨1,by omega⟩,by grind,aj ⟨?_,trivial⟩ ?_⟩
   ·grind
   simp[wk]
  have q:o=((Pv b n i:Nat):Int):=by
   grind [Pv]
  have B:=Lw (fork:=b) (n:=n) (show 0<i by omega);rw[if_neg r]at h;subst q;generalize Pv b n i=k at*
  generalize upd f i i 2=f2 at*
  have t:=vp (i:=i+1) (k:=k) (n:=n) 9 n (by omega);have u:=dO (n:=i+1) n f2 (i:=i) (by omega);have v:=az (f2 i) (show k<n by omega);have w:=dO (n:=i+1) n (upd f2 i k (-1)) (i:=k) (by omega);have x:=az (upd f2 i k (-1) k) m;refine ar (k:=aD rfl (uy (aE s (aE t (aE u (aE v (aE @gV (aE w x)))))) (k:=bK (k:=?_))));refine⟨⟨i+1,by omega⟩,by grind,aj ⟨?_,trivial⟩ ?_⟩
  ·simp only[h];rfl
  simp[wk]
 have p:i=n:=by omega
 subst p;refine ar (k:=bG rfl ?_);show bs _ _ _ _;rw[ER];refine bH (k:=?_);refine aZ ⟨.inr rfl,_,bv.refl _,?_⟩;refine⟨.one (.sl 9 0 0 i),9,?_,rfl,?_,rfl⟩
 ·simp(disch:=omega) only[kd,results81]
 grind [dA]
def GoodP (n:Nat) (f:FF):Prop:=SymF f n/\Ba f n/\detF n f<=10000
theorem L6 (n:Nat) (f:FF) (b:1<=n) (x:n<=8) (c: ∀i j:Nat,I64 (f i j)) (r:Bool) (m:r=true↔GoodP n f):CallC prog 84 [dq (mat n n f)] ⟨[],.raw (.bool r)⟩:=by
 have q:=Vo n n f b (by omega) b (by omega) (fun i j _ _=>c i j);obtain⟨e,t,s⟩:=um n n f b (by omega) b (by omega) (fun i j _ _=>(c i j).sz (by omega));by_cases g:e=0
 ·obtain⟨_,_,z,y⟩:=t.1 g;subst g;have u:=iB n f b (by omega) (fun i j _ _=>(c i j).sz (by omega));have v:=fY 10000 (by omega) (by omega);have w:=A4 (detF n f) 10000 ((pH (n:=n) (by omega) (fun i j _ _=>(c i j).sz (by omega))).mono (by omega)) (nt (by decide) (by omega));have l:=zA (detF n f) 10000;have p:r=decide (detF n f<=10000):=by
   cases r with
   |true=>have:=(m.1 rfl).2.2;simp[this]
   |false=>
    have: ¬detF n f<=10000:=fun h=>by have:=m.2 ⟨z,y,h⟩;cases this
    simp[this]
  rw[p];generalize detF n f=d at*
  refine aB func84 rfl ntmps84 (aC (k:=bQ [⟨1,_,_,_,q⟩] (k:=ce [⟨1,_,_,_,s⟩,⟨5,_,_,_,u⟩,⟨6,_,_,_,v⟩,⟨7,_,_,_,w⟩] l (k:=aF @results84))))
 have o:r=false:=by
  cases r with
  |false=>rfl
  |true=>have:=m.1 rfl;exact absurd (t.2 ⟨rfl,x,this.1,this.2.1⟩) g
 subst o;refine aB func84 rfl ntmps84 (aC (k:=bQ [⟨1,_,_,_,q⟩] (k:=bL [⟨1,_,_,_,s⟩] (k:=aF @results84))))
end Go.Proofs.YtalmoejhjceflaaGreat
