/-
  Part 3 of a proof (walks and plain facts).
-/
import Derived.Test.YtalmoejhjceflaaGreatP01
import Derived.Laws.AppendOwn
import Derived.Maps.AppendAt
import Derived.Deep.OwnRows
import Derived.Orders
import Derived.ChangeKeysEq
import Derived.Laws.StructEq
set_option linter.all false
set_option maxRecDepth 100000
set_option maxHeartbeats 64000000
open Go.Result renaming andThen_ok → ak
namespace Go.Proofs.YtalmoejhjceflaaGreat
open Go.RowKit
section
def ef (f:FF) (i j:Nat) (c:Int):Nat->Nat->Int:=fun a b=>f a b+(if a=i then c*f j b else 0)+(if b=i then c*f a j else 0)+(if a=i then(if b=i then c*c*f j j else 0)else 0)
def mT (m a:Nat):Nat:=if a=m then m+1 else if a=m+1 then m else a
def i9 (f:FF) (m:Nat):Nat->Nat->Int:=fun a b=>f (mT m a) (mT m b)
theorem Kj {m a:Nat} (h:a<m):mT m a=a:=by unfold mT;rw[if_neg (by omega),if_neg (by omega)]
theorem xW {m a:Nat} (h:m+1<a):mT m a=a:=by unfold mT;rw[if_neg (by omega),if_neg (by omega)]
theorem An (m:Nat):mT m m=m+1:=by simp[mT]
theorem xX (m:Nat):mT m (m+1)=m:=by simp[mT]
theorem nI {m a n:Nat} (hm:m+1<n) (h:a<n):mT m a<n:=by unfold mT;split<;>(try split)<;>omega
theorem DF {f:FF} {k:Nat} (h: ∀t,t<k->dk f (t+1)≠0):dk f k≠0:=by
 cases k with
 |zero=>rw[cj];omega
 |succ k=>exact h k (by omega)
theorem rV {g:FF} {i j a b:Nat} {c:Int} (ha:a≠i) (hb:b≠i):ef g i j c a b=g a b:=by
 unfold ef;rw[if_neg ha,if_neg hb,if_neg ha];omega
theorem Ic {f:FF} {i j:Nat} {c:Int} (hji:j<i): ∀k,k<=j+1->(∀t,t<k->dk f (t+1)≠0)->(∀k',k'<=k->dk (ef f i j c) k'=dk f k')/\ ∀a b,bk (ef f i j c) k a b=ef (bk f k) i j c a b
 |0,_,_=>⟨fun k' h=>by have:k'=0:=(by omega);subst this;rfl,fun a b=>by rw[cp];unfold ef;simp only[cp]⟩
 |k+1,hk,hd=>by
  obtain⟨h1,h2⟩:=Ic (c:=c) hji k (by omega) (fun t ht=>hd t (by omega));have e1:dk (ef f i j c) (k+1)=dk f (k+1):=by rw[bT,h2,rV (by omega) (by omega),bT]
  have hd': ∀t,t<k->dk (ef f i j c) (t+1)≠0:=fun t ht=>by rw[h1 (t+1) (by omega)];exact hd t (by omega)
  refine⟨fun k' h=>?_,fun a b=>?_⟩
  ·by_cases e:k'=k+1
   ·subst e;exact e1
   exact h1 k' (by omega)
  have hne:=DF (f:=f) (k:=k) (fun t ht=>hd t (by omega));have s:=sylv (ef f i j c) k hd' a b;rw[h1 k (by omega),e1,h2 a b,h2 a k,h2 k b]at s;have s1:=sylv f k (fun t ht=>hd t (by omega)) a b;have s2:=sylv f k (fun t ht=>hd t (by omega)) j b;have s3:=sylv f k (fun t ht=>hd t (by omega)) a j;have s4:=sylv f k (fun t ht=>hd t (by omega)) j j;refine Int.eq_of_mul_eq_mul_left hne ?_;rw[s];have hki: ¬k=i:=by omega
  unfold ef;by_cases ha:a=i
  ·by_cases hb:b=i
   ·simp only[ha,hb,hki,if_true,if_false];subst ha;subst hb;grind
   simp only[ha,hb,hki,if_true,if_false];subst ha;grind
  by_cases hb:b=i
  ·simp only[ha,hb,hki,if_true,if_false];subst hb;grind
  simp only[ha,hb,hki,if_false];grind
theorem Dv {f g:FF} {n k0:Nat} (hf: ∀t,t<n->dk f (t+1)≠0) (hg: ∀t,t<k0->dk g (t+1)≠0) (hd:dk g k0=dk f k0) (h0: ∀a b,a<n->b<n->bk g k0 a b=bk f k0 a b):
  ∀k,k0<=k->k<=n->(∀k',k0<=k'->k'<=k->dk g k'=dk f k')/\ ∀a b,a<n->b<n->bk g k a b=bk f k a b:=by
 intro k
 induction k with
 |zero=>exact fun h1 h2=>⟨fun k' g1 g2=>by have:k'=k0:=(by omega);subst this;exact hd,fun a b ha hb=>by have:k0=0:=(by omega);subst this;exact h0 a b ha hb⟩
 |succ k ih=>
  intro h1 h2;by_cases e:k0=k+1
  ·subst e;exact⟨fun k' g1 g2=>by have:k'=k+1:=(by omega);subst this;exact hd,h0⟩
  obtain⟨p1,p2⟩:=ih (by omega) (by omega);have e1:dk g (k+1)=dk f (k+1):=by rw[bT,p2 k k (by omega) (by omega),bT]
  have hg': ∀t,t<k->dk g (t+1)≠0:=fun t ht=>by
   by_cases h:t<k0
   ·exact hg t h
   rw[p1 (t+1) (by omega) (by omega)];exact hf t (by omega)
  refine⟨fun k' g1 g2=>?_,fun a b ha hb=>?_⟩
  ·by_cases e:k'=k+1
   ·subst e;exact e1
   exact p1 k' g1 (by omega)
  have hne:=DF (f:=f) (k:=k) (fun t ht=>hf t (by omega));have s:=sylv g k hg' a b;have s1:=sylv f k (fun t ht=>hf t (by omega)) a b;rw[p1 k (by omega) (by omega),e1,p2 a b ha hb,p2 a k ha (by omega),p2 k b (by omega) hb,<- s1]at s;exact Int.eq_of_mul_eq_mul_left hne s
section
variable {f:FF} {n:Nat}
theorem wU (hs:SymF f n) (hp: ∀t,t<n->dk f (t+1)≠0) {k a t:Nat} (hk:k<=n) (ht:t<k) (ha:a<n):bk f k a t=0:=by
 rw[ip hs k hk (fun t ht=>hp t (by omega)) a t ha (by omega),iA f ht]
theorem iU (hs:SymF f n) (hp: ∀t,t<n->dk f (t+1)≠0) {i j:Nat} (c:Int) (hji:j<i) (hi:i<n):
  (∀k,k<=n->dk (ef f i j c) k=dk f k)/\(∀k a b,k<=j->bk (ef f i j c) k a b=ef (bk f k) i j c a b)/\ ∀k a b,j<k->k<=n->a<n->b<n->bk (ef f i j c) k a b=bk f k a b:=by
 have hlo:=Ic (f:=f) (c:=c) hji;obtain⟨h1,h2⟩:=hlo (j+1) (Nat.le_refl _) (fun t ht=>hp t (by omega));have h0: ∀a b,a<n->b<n->bk (ef f i j c) (j+1) a b=bk f (j+1) a b:=fun a b ha hb=>by
  rw[h2];unfold ef;rw[iA f (show j<j+1 by omega) b,iA f (show j<j+1 by omega) j,wU hs hp (by omega) (show j<j+1 by omega) ha]
  simp
 have hsame:=Dv (f:=f) (g:=ef f i j c) (n:=n) (k0:=j+1) hp (fun t ht=>by rw[h1 (t+1) (by omega)];exact hp t (by omega)) (h1 (j+1) (by omega)) h0;refine⟨fun k hk=>?_,fun k a b hk=>(hlo k (by omega) (fun t ht=>hp t (by omega))).2 a b,fun k a b hjk hk ha hb=>(hsame k (by omega) hk).2 a b ha hb⟩;by_cases h:k<=j+1
 ·exact h1 k h
 exact(hsame k (by omega) hk).1 k (by omega) (by omega)
theorem wW {m:Nat}: ∀k,k<=m->(∀t,t<k->dk f (t+1)≠0)->(∀k',k'<=k->dk (i9 f m) k'=dk f k')/\ ∀a b,bk (i9 f m) k a b=bk f k (mT m a) (mT m b)
 |0,_,_=>⟨fun k' h=>by have:k'=0:=(by omega);subst this;rfl,fun a b=>by rw[cp,cp];rfl⟩
 |k+1,hk,hd=>by
  obtain⟨h1,h2⟩:=wW (m:=m) k (by omega) (fun t ht=>hd t (by omega));have e1:dk (i9 f m) (k+1)=dk f (k+1):=by rw[bT,h2,Kj (by omega),bT]
  have hd': ∀t,t<k->dk (i9 f m) (t+1)≠0:=fun t ht=>by rw[h1 (t+1) (by omega)];exact hd t (by omega)
  refine⟨fun k' h=>?_,fun a b=>?_⟩
  ·by_cases e:k'=k+1
   ·subst e;exact e1
   exact h1 k' (by omega)
  have hne:=DF (f:=f) (k:=k) (fun t ht=>hd t (by omega));have s:=sylv (i9 f m) k hd' a b;rw[h1 k (by omega),e1,h2 a b,h2 a k,h2 k b,Kj (show k<m by omega)]at s;have s1:=sylv f k (fun t ht=>hd t (by omega)) (mT m a) (mT m b);refine Int.eq_of_mul_eq_mul_left hne ?_;rw[s,s1]
theorem Si (xmm x11 x1m xm1 xab xam xmb xa1 x1b:Int):(xmm*x11-x1m*xm1)*(xmm*xab-xam*xmb)-(xmm*xa1-xam*xm1)*(xmm*x1b-x1m*xmb)=xmm*(xmm*x11*xab-x11*xam*xmb-x1m*xm1*xab+xam*xm1*x1b+xa1*x1m*xmb-xmm*xa1*x1b):=by grind
theorem Sj (xmm x11 x1m xm1 xab xam xmb xa1 x1b:Int):(x11*xmm-xm1*x1m)*(x11*xab-xa1*x1b)-(x11*xam-xa1*x1m)*(x11*xmb-xm1*x1b)=x11*(xmm*x11*xab-x11*xam*xmb-x1m*xm1*xab+xam*xm1*x1b+xa1*x1m*xmb-xmm*xa1*x1b):=by grind
theorem uv (hs:SymF f n) (hp: ∀t,t<n->0<dk f (t+1)) {m:Nat} (hm:m+1<n):
  dk f (m+1)*dk (i9 f m) (m+1)=dk f m*dk f (m+2)+bk f m (m+1) m*bk f m (m+1) m/\0<dk (i9 f m) (m+1):=by
 have hne: ∀t,t<n->dk f (t+1)≠0:=fun t ht=>by have:=hp t ht;omega
 obtain⟨h1,h2⟩:=wW (f:=f) (m:=m) m (Nat.le_refl _) (fun t ht=>hne t (by omega));have e:dk (i9 f m) (m+1)=bk f m (m+1) (m+1):=by rw[bT,h2,An]
 have s:=sylv f m (fun t ht=>hne t (by omega)) (m+1) (m+1);have hsy:=ip hs m (by omega) (fun t ht=>hne t (by omega)) m (m+1) (by omega) (by omega);rw[hsy,<- bT f (m+1)]at s;have key:dk f (m+1)*dk (i9 f m) (m+1)=dk f m*dk f (m+2)+bk f m (m+1) m*bk f m (m+1) m:=by rw[e,s];omega
 refine⟨key,?_⟩;have p1:=hp m (by omega);have p2:=hp (m+1) hm;have p0:0<dk f m:=by
  cases m with
  |zero=>rw[cj];omega
  |succ m=>exact hp m (by omega)
 have q1:0<dk f m*dk f (m+2):=Int.mul_pos p0 p2;have q2:0<=bk f m (m+1) m*bk f m (m+1) m:=by
  rcases Int.le_total 0 (bk f m (m+1) m)with h|h
  ·exact Int.mul_nonneg h h
  exact Int.mul_nonneg_of_nonpos_of_nonpos h h
 rcases Int.lt_or_le 0 (dk (i9 f m) (m+1))with h|h
 ·exact h
 exfalso;have:=Int.mul_nonpos_of_nonneg_of_nonpos (Int.le_of_lt p1) h;omega
theorem mb (hs:SymF f n) (hp: ∀t,t<n->0<dk f (t+1)) {m:Nat} (hm:m+1<n):
  (∀k,k<=n->k≠m+1->dk (i9 f m) k=dk f k)/\(∀k a b,k<=m->bk (i9 f m) k a b=bk f k (mT m a) (mT m b))/\ ∀k a b,m+1<k->k<=n->a<n->b<n->bk (i9 f m) k a b=bk f k a b:=by
 have hne: ∀t,t<n->dk f (t+1)≠0:=fun t ht=>by have:=hp t ht;omega
 have hlo:=wW (f:=f) (m:=m);obtain⟨h1,h2⟩:=hlo m (Nat.le_refl _) (fun t ht=>hne t (by omega));have hsm:=(uv hs hp hm).2;have hgm: ∀t,t<m+1->dk (i9 f m) (t+1)≠0:=fun t ht=>by
  by_cases e:t=m
  ·subst e;omega
  rw[h1 (t+1) (by omega)];exact hne t (by omega)
 have hPne:=DF (f:=f) (k:=m) (fun t ht=>hne t (by omega));have hd1:=hne m (by omega);have hsg:SymF (i9 f m) n:=fun a ha b hb=>hs _ (nI hm ha) _ (nI hm hb)
 -- stage m + 2 for a, b behind m + 1
 have hz: ∀a b,m+1<a->m+1<b->bk (i9 f m) (m+2) a b=bk f (m+2) a b:=fun a b ha hb=>by
  have F: ∀x y,dk f m*bk f (m+1) x y=dk f (m+1)*bk f m x y-bk f m x m*bk f m m y:=fun x y=>sylv f m (fun t ht=>hne t (by omega)) x y
  have G: ∀x y,dk f m*bk (i9 f m) (m+1) x y=dk (i9 f m) (m+1)*bk f m (mT m x) (mT m y)-bk f m (mT m x) (m+1)*bk f m (m+1) (mT m y):=fun x y=>by
   have:=sylv (i9 f m) m (fun t ht=>hgm t (by omega)) x y;rw[h1 m (by omega),h2,h2,h2,An]at this;exact this
  have F2:=sylv f (m+1) (fun t ht=>hne t (by omega)) a b;have G2:=sylv (i9 f m) (m+1) hgm a b;rw[bT f (m+1)]at F2;rw[bT (i9 f m) (m+1)]at G2;have f11:=F (m+1) (m+1);have fab:=F a b;have fa1:=F a (m+1);have f1b:=F (m+1) b;have g11:=G (m+1) (m+1);have gab:=G a b;have ga1:=G a (m+1);have g1b:=G (m+1) b;rw[xX]at g11;rw[xW ha,xW hb]at gab;rw[xW ha,xX]at ga1;rw[xW hb,xX]at g1b;have ed:dk (i9 f m) (m+1)=bk f m (m+1) (m+1):=by rw[bT,h2,An]
  have ed':dk f (m+1)=bk f m m m:=bT f m;rw[ed]at g11 gab ga1 g1b G2;rw[ed']at f11 fab fa1 f1b F2;have hx1:bk f m (m+1) (m+1)≠0:=by rw[<- ed];omega
  have hxm:bk f m m m≠0:=by rw[<- ed'];exact hd1
  generalize bk (i9 f m) (m+2) a b=z' at*
  generalize bk f (m+2) a b=z at*
  generalize bk (i9 f m) (m+1) (m+1) (m+1)=y11' at*
  generalize bk (i9 f m) (m+1) a b=yab' at*
  generalize bk (i9 f m) (m+1) a (m+1)=ya1' at*
  generalize bk (i9 f m) (m+1) (m+1) b=y1b' at*
  generalize bk f (m+1) (m+1) (m+1)=y11 at*
  generalize bk f (m+1) a b=yab at*
  generalize bk f (m+1) a (m+1)=ya1 at*
  generalize bk f (m+1) (m+1) b=y1b at*
  generalize bk f m (m+1) (m+1)=x11 at*
  generalize bk f m m m=xmm at*
  generalize bk f m (m+1) m=x1m at*
  generalize bk f m m (m+1)=xm1 at*
  generalize bk f m a b=xab at*
  generalize bk f m a m=xam at*
  generalize bk f m m b=xmb at*
  generalize bk f m a (m+1)=xa1 at*
  generalize bk f m (m+1) b=x1b at*
  generalize dk f m=p at*
  have k1:p*p*(xmm*z)=xmm*(xmm*x11*xab-x11*xam*xmb-x1m*xm1*xab+xam*xm1*x1b+xa1*x1m*xmb-xmm*xa1*x1b):=by
   have:p*p*(xmm*z)=(p*y11)*(p*yab)-(p*ya1)*(p*y1b):=by rw[F2];grind
   rw[this,f11,fab,fa1,f1b];exact Si _ _ _ _ _ _ _ _ _
  have k2:p*p*(x11*z')=x11*(xmm*x11*xab-x11*xam*xmb-x1m*xm1*xab+xam*xm1*x1b+xa1*x1m*xmb-xmm*xa1*x1b):=by
   have:p*p*(x11*z')=(p*y11')*(p*yab')-(p*ya1')*(p*y1b'):=by rw[G2];grind
   rw[this,g11,gab,ga1,g1b];exact Sj _ _ _ _ _ _ _ _ _
  have k3:p*p*z=xmm*x11*xab-x11*xam*xmb-x1m*xm1*xab+xam*xm1*x1b+xa1*x1m*xmb-xmm*xa1*x1b:=
   Int.eq_of_mul_eq_mul_left hxm (by rw[<- k1];exact Int.mul_left_comm _ _ _)
  have k4:p*p*z'=xmm*x11*xab-x11*xam*xmb-x1m*xm1*xab+xam*xm1*x1b+xa1*x1m*xmb-xmm*xa1*x1b:=
   Int.eq_of_mul_eq_mul_left hx1 (by rw[<- k2];exact Int.mul_left_comm _ _ _)
  exact Int.eq_of_mul_eq_mul_left (Int.mul_ne_zero hPne hPne) (k4.trans k3.symm)
 have hd2:dk (i9 f m) (m+2)=dk f (m+2):=by
  have s1:=sylv f m (fun t ht=>hne t (by omega)) (m+1) (m+1);have s2:=sylv (i9 f m) m (fun t ht=>hgm t (by omega)) (m+1) (m+1);have ed:dk (i9 f m) (m+1)=bk f m (m+1) (m+1):=by rw[bT,h2,An]
  rw[h1 m (by omega),h2,h2,h2,An,xX,ed,<- bT (i9 f m) (m+1)]at s2;rw[<- bT f (m+1),bT f m]at s1;refine Int.eq_of_mul_eq_mul_left hPne ?_;rw[s1,s2,Int.mul_comm (bk f m (m+1) (m+1)),Int.mul_comm (bk f m m (m+1))]
 have hg2: ∀t,t<m+2->dk (i9 f m) (t+1)≠0:=fun t ht=>by
  by_cases e:t=m+1
  ·subst e;rw[hd2];exact hne (m+1) (by omega)
  exact hgm t (by omega)
 have h0: ∀a b,a<n->b<n->bk (i9 f m) (m+2) a b=bk f (m+2) a b:=fun a b ha hb=>by
  by_cases h1a:a<m+2
  ·rw[iA _ h1a,iA _ h1a]
  by_cases h1b:b<m+2
  ·rw[wU hs hne (by omega) h1b ha,ip hsg (m+2) (by omega) hg2 a b ha hb,iA _ h1b]
  exact hz a b (by omega) (by omega)
 have hsame:=Dv (f:=f) (g:=i9 f m) (n:=n) (k0:=m+2) hne hg2 hd2 h0;refine⟨fun k hk hkm=>?_,fun k a b hk=>(hlo k hk (fun t ht=>hne t (by omega))).2 a b,fun k a b hmk hk ha hb=>(hsame k (by omega) hk).2 a b ha hb⟩;by_cases h:k<=m
 ·exact h1 k h
 exact(hsame k (by omega) hk).1 k (by omega) (by omega)
end
end
inductive PV where
 |raw (v:Value)
 |sl (xs:List (List PV))
 |ptr (cs:List PV)
inductive AV where
 |p (x:PV)
 |sl (a r off len:Nat)
 |ptr (a r i j:Nat)
 |junk
 |fn (f:FuncId) (a:Nat) (qs:List (Nat×Nat×Nat))
inductive TV where
 |one (x:AV)
 |agg (cs:List AV)
 |tup (ts:List (Bool×List AV))
 |fn (f:FuncId) (cs:List AV)
structure OObj where
 ty:TypeId
 es:Nat
 elems:List (List AV)
abbrev OH:=Nat->List OObj
structure AS where
 tmps:List TV
 H:OH
inductive bX (X:Nat->Prop) (w:World):PV->Value->Prop
 |raw (v:Value) (h:v.oneCell'=true):bX X w (.raw v) v
 |nil (a:Option Addr) (c:Nat):bX X w (.sl []) (.slice a 0 c)
 |sl (b off es cap:Nat) (xs:List (List PV)) (f:Nat->Nat->Value) (hX: ¬X b) (hb:b<w.heap.size) (hes: ∀e∈xs,e.length=es) (hcap:xs.length<=cap) (hm:xs.length<=9223372036854775807)
   (hc: ∀(i:Nat) e (j:Nat) x,xs[i]?=some e->e[j]?=some x->w.cell? ⟨b,off+i*es+j,none⟩=some (f i j))
   (hr: ∀(i:Nat) e (j:Nat) x,xs[i]?=some e->e[j]?=some x->bX X w x (f i j)):bX X w (.sl xs) (.slice (some ⟨b,off,none⟩) xs.length cap)
 |ptr (b off:Nat) (cs:List PV) (f:Nat->Value) (hX: ¬X b) (hb:b<w.heap.size)
   (hc: ∀(j:Nat) x,cs[j]?=some x->w.cell? ⟨b,off+j,none⟩=some (f j))
   (hr: ∀(j:Nat) x,cs[j]?=some x->bX X w x (f j)):bX X w (.ptr cs) (.pointer (some ⟨b,off,none⟩))
theorem bX.one {X:Nat->Prop} {w:World} {x:PV} {v:Value} (h:bX X w x v):v.oneCell'=true:=by
 cases h<;>first|assumption|rfl
def Oc (X:Nat->Prop) (w w':World):Prop:=w.heap.size<=w'.heap.size/\ ∀p v,¬X p.block->w.cell? p=some v->w'.cell? p=some v
theorem bX.stays {X:Nat->Prop} {w w':World} (hs:Oc X w w') {x:PV} {v:Value} (h:bX X w x v):bX X w' x v:=by
 induction h with
 |raw v h=>exact .raw v h
 |nil a c=>exact .nil a c
 |sl b off es cap xs f hX hb hes hcap hm hc hr ih=>exact .sl b off es cap xs f hX (Nat.lt_of_lt_of_le hb hs.1) hes hcap hm (fun i e j x h1 h2=>hs.2 _ _ hX (hc i e j x h1 h2)) ih
 |ptr b off cs f hX hb hc hr ih=>exact .ptr b off cs f hX (Nat.lt_of_lt_of_le hb hs.1) (fun j x h1=>hs.2 _ _ hX (hc j x h1)) ih
theorem bX.weaken {X Y:Nat->Prop} {w:World} (hs: ∀b,b<w.heap.size->Y b->X b) {x:PV} {v:Value} (h:bX X w x v):bX Y w x v:=by
 induction h with
 |raw v h=>exact .raw v h
 |nil a c=>exact .nil a c
 |sl b off es cap xs f hX hb hes hcap hm hc hr ih=>exact .sl b off es cap xs f (fun h=>hX (hs _ hb h)) hb hes hcap hm hc ih
 |ptr b off cs f hX hb hc hr ih=>exact .ptr b off cs f (fun h=>hX (hs _ hb h)) hb hc ih
abbrev Rho:=Nat->Nat->Option (Nat×Nat)
def Xo (X:Nat->Prop) (ρ:Rho) (H:OH):Nat->Prop:=fun b=>X b\/ ∃(a r:Nat) (o:OObj) (c:Nat),(H a)[r]?=some o/\ρ a r=some (b,c)
def AV.rel (ρ:Rho) (H:OH) (X:Nat->Prop) (w:World):AV->Value->Prop
 | .p x,v=>bX X w x v
 | .sl a r off len,v=> ∃o,(H a)[r]?=some o/\off+len<=o.elems.length/\
   ((ρ a r=none/\v= .slice none 0 0/\len=0/\off=0)\/ ∃b c cap,ρ a r=some (b,c)/\v= .slice (some ⟨b,off*o.es,none⟩) len cap/\len<=cap/\(a<=4999->cap=c-off))
 | .ptr a r i j,v=> ∃o b c,(H a)[r]?=some o/\ρ a r=some (b,c)/\i<o.elems.length/\v= .pointer (some ⟨b,i*o.es+j,none⟩)
 | .junk,_=>True
 | .fn f a qs,v=> ∃vs:Array Value,v= .func (.func f) #[] vs/\vs.size=qs.length/\0<qs.length/\ ∀(n:Nat) q,qs[n]?=some q-> ∃u:Value,vs[n]?=some u/\
   ∃o b c,(H a)[q.1]?=some o/\ρ a q.1=some (b,c)/\q.2.1<o.elems.length/\u= .pointer (some ⟨b,q.2.1*o.es+q.2.2,none⟩)
def zM:AV->Bool
 | .fn ..=>false
 |_=>true
def lf (g:AV->AV):Prop:= ∀f a qs,g (.fn f a qs)= .junk\/ ∃a' qs',g (.fn f a qs)= .fn f a' qs'/\qs'.length=qs.length/\ ∀(n:Nat) q,qs[n]?=some q-> ∃q',qs'[n]?=some q'/\g (.ptr a q.1 q.2.1 q.2.2)= .ptr a' q'.1 q'.2.1 q'.2.2
theorem iW {c:AV->Prop} (hc: ∀f a qs r i j,c (.fn f a qs)->c (.ptr a r i j)) {g:AV->AV} (hg:lf g) {ρ ρ':Rho} {H H':OH} {X X':Nat->Prop} {w w':World} (h: ∀x v,zM x=true->c x->AV.rel ρ H X w x v->AV.rel ρ' H' X' w' (g x) v) (x:AV) (v:Value) (cx:c x) (k:AV.rel ρ H X w x v):AV.rel ρ' H' X' w' (g x) v:=by
 cases x with
 |fn f a qs=>
  rcases hg f a qs with e|⟨a',qs',e,hl,hq⟩
  ·rw[e];trivial
  rw[e];obtain⟨vs,h1,h2,h0,h3⟩:=k;refine⟨vs,h1,h2.trans hl.symm,by omega,fun n q' hn=>?_⟩;have hlt:=(List.getElem?_eq_some_iff.1 hn).1;obtain⟨q2,g1,g2⟩:=hq n qs[n] (List.getElem?_eq_getElem (by omega));rw[hn]at g1;injection g1 with g1
  subst g1;obtain⟨u,u1,u2⟩:=h3 n qs[n] (List.getElem?_eq_getElem (by omega));have:=h (.ptr a qs[n].1 qs[n].2.1 qs[n].2.2) u rfl (hc f a qs _ _ _ cx) u2;rw[g2]at this;exact⟨u,u1,this⟩
 |_=>exact h _ v rfl cx k
theorem fo {g:AV->AV} (hg:lf g) {ρ ρ':Rho} {H H':OH} {X X':Nat->Prop} {w w':World} (h: ∀x v,zM x=true->AV.rel ρ H X w x v->AV.rel ρ' H' X' w' (g x) v) (x:AV) (v:Value) (k:AV.rel ρ H X w x v):AV.rel ρ' H' X' w' (g x) v:=
 iW (c:=fun _=>True) (fun _ _ _ _ _ _ h=>h) hg (fun x v hn _ k=>h x v hn k) x v trivial k
theorem oL:lf id:=fun f a qs=> .inr ⟨a,qs,rfl,rfl,fun n q hn=>⟨q,hn,rfl⟩⟩
theorem n9 {ρ ρ':Rho} {H H':OH} {X X':Nat->Prop} {w w':World} (h: ∀x v,zM x=true->AV.rel ρ H X w x v->AV.rel ρ' H' X' w' x v) (x:AV) (v:Value) (k:AV.rel ρ H X w x v):AV.rel ρ' H' X' w' x v:=fo oL h x v k
theorem ma {a a' r r' off len es:Nat} {ρ ρ':Rho} {v:Value} (ha:a<=4999) (h:(ρ a r=none/\v= .slice none 0 0/\len=0/\off=0)\/ ∃b c cap,ρ a r=some (b,c)/\v= .slice (some ⟨b,off*es,none⟩) len cap/\len<=cap/\(a<=4999->cap=c-off)) (hr:ρ' a' r'=ρ a r):
  (ρ' a' r'=none/\v= .slice none 0 0/\len=0/\off=0)\/ ∃b c cap,ρ' a' r'=some (b,c)/\v= .slice (some ⟨b,off*es,none⟩) len cap/\len<=cap/\(a'<=4999->cap=c-off):=by
 rw[hr];rcases h with h|⟨b,c,cap,h1,h2,h3,h4⟩
 ·exact .inl h
 exact .inr ⟨b,c,cap,h1,h2,h3,fun _=>h4 ha⟩
def bJ (ρ:Rho) (H:OH) (X:Nat->Prop) (w:World) (cs:List AV) (v:Value):Prop:=
 ∃vs:Array Value,v= .agg vs/\vs.size=cs.length/\ ∀(j:Nat) x,cs[j]?=some x-> ∃u:Value,vs[j]?=some u/\u.oneCell'=true/\x.rel ρ H X w u
def Sy (f:FuncId):Value->Value
 | .agg vs=> .func (.func f) #[] vs
 |v=>v
def TV.rel (ρ:Rho) (H:OH) (X:Nat->Prop) (w:World):TV->Value->Prop
 | .one x,v=>x.rel ρ H X w v
 | .agg cs,v=>bJ ρ H X w cs v
 | .tup ts,v=> ∃vs:Array Value,v= .tuple vs/\vs.size=ts.length/\ ∀(j:Nat) b cs,ts[j]?=some (b,cs)-> ∃u:Value,vs[j]?=some u/\
   ((b=true/\bJ ρ H X w cs u)\/(b=false/\ ∃x,cs=[x]/\x.rel ρ H X w u))
 | .fn f cs,v=> ∃u,bJ ρ H X w cs u/\v=Sy f u
def objRel (ρ:Rho) (H:OH) (X:Nat->Prop) (w:World) (a r:Nat) (o:OObj):Prop:=
 (∀e∈o.elems,e.length=o.es)/\0<o.es/\
 match ρ a r with
 |none=>o.elems=[]
 |some (b,c)=> ∃cells,w.heap[b]?=some (.cells cells o.ty (0,0))/\cells.size=c*o.es/\o.elems.length<=c/\c<=9223372036854775807/\
   ∀(i:Nat) e (j:Nat) x,o.elems[i]?=some e->e[j]?=some x-> ∃v:Value,cells[i*o.es+j]?=some v/\v.oneCell'=true/\x.rel ρ H X w v
structure Keep (O:Nat->Prop) (w0 w:World):Prop where
 os:w.os=w0.os
 tape:w.tape=w0.tape
 output:w.output=w0.output
 size:w0.heap.size<=w.heap.size
 block: ∀k,k<w0.heap.size-> ¬O k->w.heap[k]?=w0.heap[k]?
def bG (a:Nat):AV->Prop
 | .sl b _ _ _=>b=a
 | .ptr b _ _ _=>b=a
 | .fn _ b qs=>b=a/\qs≠[]
 |_=>True
def selfO (a:Nat) (o:OObj):Prop:= ∀e∈o.elems,∀x∈e,bG a x
structure Inv (w0:World) (O X:Nat->Prop) (H:OH) (ρ:Rho) (w:World):Prop where
 keep:Keep O w0 w
 objs: ∀(a r:Nat) (o:OObj),(H a)[r]?=some o->objRel ρ H (Xo X ρ H) w a r o
 inj: ∀(a r a' r':Nat) (o o':OObj) (b c c':Nat),(H a)[r]?=some o->(H a')[r']?=some o'->ρ a r=some (b,c)->ρ a' r'=some (b,c')->a=a'/\r=r'
 old: ∀(a r:Nat) (o:OObj) (b c:Nat),(H a)[r]?=some o->ρ a r=some (b,c)->(w0.heap.size<=b\/O b)/\ ¬X b
 bar: ∀b,X b->b<w.heap.size
 self: ∀(a r:Nat) (o:OObj),(H a)[r]?=some o->selfO a o
def cW (w0:World) (O X:Nat->Prop) (s:AS) (a:Act) (w:World):Prop:=
 a.defers=[]/\a.tmps.size=s.tmps.length/\ ∃ρ,Inv w0 O X s.H ρ w/\
  ∀(t:Nat) x,s.tmps[t]?=some x-> ∃v:Value,a.tmps[t]?=some v/\x.rel ρ s.H (Xo X ρ s.H) w v
def gh (P:Program) (t:TypeId):Option Nat:=(P.info? t).map (·.size)
def E3 (P:Program) (t:TypeId):Option Nat:=(P.info? t).map (·.bytes)
def dp (P:Program) (t:TypeId):Option (List Value):=((P.info? t).bind (·.zero)).map (·.cells.toList)
def fH (P:Program) (t:TypeId):Option Bool:=(P.underlying t).map fun| .struct _=>true| .array _ _=>true|_=>false
def db (P:Program) (t:TypeId):Option TypeId:=(P.underlying t).bind fun| .slice e=>some e|_=>none
def m8 (P:Program) (t:TypeId):Option (Nat×TypeId):=(P.underlying t).bind fun| .array n e=>some (n,e)|_=>none
def uQ (P:Program) (t:TypeId):Option IntKind:=(P.underlying t).bind fun| .int k=>some k|_=>none
def vq (P:Program) (t:TypeId):Bool:=match P.underlying t with|some .bool=>true|_=>false
def du (P:Program) (t:TypeId) (f:Nat):Option (Nat×TypeId):=(P.underlying t).bind fun| .struct fs=>(fs[f]?).map fun d=>(d.offset,d.type)|_=>none
abbrev AV.raw (v:Value):AV:= .p (.raw v)
abbrev TV.raw (v:Value):TV:= .one (.p (.raw v))
abbrev TV.undef:TV:= .tup []
def mz:Value->TV
 | .agg cs=>if cs.toList.all (·.oneCell')then .agg (cs.toList.map AV.raw)else .one .junk
 |v=>if v.oneCell' then .raw v else .one .junk
def AS.ev (s:AS):Operand->Option TV
 | .tmp t=>s.tmps[t]?
 | .const v=>some (mz v)
 | .global g=>some (.raw (.pointer (some ⟨g,0,none⟩)))
 | .func f=>some (.raw (.func (.func f) #[] #[]))
def AS.put (s:AS) (d:Option Tmp) (t:TV):AS:=
 match d with
 |some d=>{s with tmps:=s.tmps.set d t}
 |none=>s
def kY (P:Program) (t:TypeId) (cs:List AV):Option TV:=
 match gh P t,fH P t with
 |some n,some true=>if n<=cs.length then some (.agg (cs.take n))else none
 |some _,some false=>match cs with
  |x::_=>some (.one x)
  |[]=>none
 |_,_=>none
def vC (bt:Bool):BinOp->Value->Value->Option Value
 | .add,.int k a,.int k' b=>if k=k' then some (.int k (k.wrap (a+b)))else none
 | .sub,.int k a,.int k' b=>if k=k' then some (.int k (k.wrap (a-b)))else none
 | .mul,.int k a,.int k' b=>if k=k' then some (.int k (k.wrap (a*b)))else none
 | .quo,.int k a,.int k' b=>if k=k'/\b≠0 then some (.int k (k.wrap (a.tdiv b)))else none
 | .rem,.int k a,.int k' b=>if k=k'/\b≠0 then some (.int k (a.tmod b))else none
 | .shl,.int k a,.int _ b=>if 0<=b then some (.int k (k.wrap (a*2^(min b.toNat k.bits))))else none
 | .shr,.int k a,.int _ b=>if 0<=b then some (.int k (a.fdiv (2^(min b.toNat k.bits))))else none
 | .and,.int k a,.int k' b=>if k=k' then some (.int k (k.wrap ((BitVec.ofInt k.bits a&&&BitVec.ofInt k.bits b).toNat:Int)))else none
 | .or,.int k a,.int k' b=>if k=k' then some (.int k (k.wrap ((BitVec.ofInt k.bits a|||BitVec.ofInt k.bits b).toNat:Int)))else none
 | .xor,.int k a,.int k' b=>if k=k' then some (.int k (k.wrap ((BitVec.ofInt k.bits a^^^BitVec.ofInt k.bits b).toNat:Int)))else none
 | .andNot,.int k a,.int k' b=>if k=k' then some (.int k (k.wrap ((BitVec.ofInt k.bits a&&& ~~~BitVec.ofInt k.bits b).toNat:Int)))else none
 | .eql,.int k a,.int k' b=>if k=k' then some (.bool (decide (a=b)))else none
 | .neq,.int k a,.int k' b=>if k=k' then some (.bool (!decide (a=b)))else none
 | .lss,.int k a,.int k' b=>if k=k' then some (.bool (decide (a<b)))else none
 | .leq,.int k a,.int k' b=>if k=k' then some (.bool (decide (a<=b)))else none
 | .gtr,.int k a,.int k' b=>if k=k' then some (.bool (decide (b<a)))else none
 | .geq,.int k a,.int k' b=>if k=k' then some (.bool (decide (b<=a)))else none
 | .eql,.bool a,.bool b=>if bt=true then some (.bool (a==b))else none
 | .neq,.bool a,.bool b=>if bt=true then some (.bool (!(a==b)))else none
 |_,_,_=>none
def Bp (P:Program) (t:TypeId):Option Nat:=match m8 P t with
 |some (n,e)=>if uQ P e≠none/\fH P e=some false/\gh P e=some 1/\P.eqGuardType P.depth t=false then some n else none
 |none=>none
def IC:List AV->List AV->Option Bool
 |[],[]=>some true
 | .p (.raw (.int k a))::xs,.p (.raw (.int k' b))::ys=>match IC xs ys with
  |some c=>if k=k' then some (decide (a=b)&&c)else none
  |none=>none
 |_,_=>none
def y6 (P:Program) (op:BinOp) (t:TypeId) (xs ys:List AV):Option TV:=match Bp P t,IC xs ys,op with
 |some n,some b,.eql=>if xs.length=n then some (.raw (.bool b))else none
 |some n,some b,.neq=>if xs.length=n then some (.raw (.bool !b))else none
 |_,_,_=>none
def Fo:UnOp->Value->Option Value
 | .neg,.int k n=>some (.int k (k.wrap (0-n)))
 | .not,.bool b=>some (.bool !b)
 |_,_=>none
def B9:Operand->Bool
 | .const (.slice none _ _)=>true
 |_=>false
def tc:TV->Option Bool
 | .one (.p (.raw (.slice none _ _)))=>some true
 | .one (.p (.sl (_::_)))=>some false
 |_=>none
def vQ (P:Program) (op:BinOp) (t:TypeId) (x y:Option TV):Option TV:=match db P t,x.bind tc,y.bind tc,op with
 |some _,some b,some true,.eql=>some (.raw (.bool b))
 |some _,some b,some true,.neq=>some (.raw (.bool !b))
 |_,_,_,_=>none
def Li (f:Int->Int->Int):List (Option TV)->Option TV
 |[some (.one (.p (.raw (.int k a)))),some (.one (.p (.raw (.int _ b))))]=>some (.raw (.int k (f a b)))
 |_=>none
def RK (ev:Operand->Option TV) (c:Call):Option TV:=match c.callee with
 | .builtin .max=>Li (fun a b=>if b>a then b else a) (c.args.toList.map ev)
 | .builtin .min=>Li (fun a b=>if b<a then b else a) (c.args.toList.map ev)
 |_=>none
def PH:Callee->Bool
 | .builtin .max| .builtin .min=>true
 |_=>false
def iB (P:Program) (ev:Operand->Option TV):Op->Option TV
 | .move x=>ev x
 | .assign x=>ev x
 | .pick c a b=>match ev c with
  |some (.one (.p (.raw (.bool true))))=>ev a
  |some (.one (.p (.raw (.bool false))))=>ev b
  |_=>none
 | .binOp op t x y _=>if B9 y=true then vQ P op t (ev x) (ev y)else match ev x,ev y with
  |some (.one (.p (.raw a))),some (.one (.p (.raw b)))=>(vC (vq P t) op a b).map TV.raw
  |some (.agg xs),some (.agg ys)=>y6 P op t xs ys
  |_,_=>none
 | .unOp op _ x=>match ev x with
  |some (.one (.p (.raw a)))=>(Fo op a).map TV.raw
  |_=>none
 | .convert src dst x=>match ev x,P.underlying src,uQ P dst with
  |some (.one (.p (.raw (.int _ n)))),some _,some k=>some (.raw (.int k (k.wrap n)))
  |_,_,_=>none
 | .extract t i=>match ev t with
  |some (.tup ts)=>match ts[i]? with
   |some (true,cs)=>some (.agg cs)
   |some (false,[x])=>some (.one x)
   |_=>none
  |_=>none
 | .call c=>RK ev c
 |_=>none
def mR:Op->Bool
 | .call c=>PH c.callee
 | .move _| .assign _| .pick ..| .binOp ..| .unOp ..| .convert ..| .extract ..=>true
 |_=>false
def vN (z:Int):Option Nat:=if 0<=z then some z.toNat else none
def dG (ev:Operand->Option TV):Option Operand->Nat->Option Nat
 |none,d=>some d
 |some x,_=>match ev x with
  |some (.one (.p (.raw (.int _ n))))=>vN n
  |_=>none
def cellsOf:TV->Option (List AV)
 | .one (.p x)=>some [.p x]
 | .one (.sl a r off len)=>some [.sl a r off len]
 | .agg cs=>some cs
 |_=>none
def gR (P:Program) (t:TypeId):Option (List (Nat×Nat)):=(P.underlying t).bind fun| .struct fs=>fs.toList.mapM (fun f=>(P.info? f.type).map fun i=>(f.offset,i.size))| .array _ e=>(P.info? e).map fun _=>[]|_=>none
def ic (pl:List (Nat×Nat)) (ev:Operand->Option TV):List AV->List (Nat×Operand)->Option (List AV)
 |cs,[]=>some cs
 |cs,(f,x)::rest=>match pl[f]?,(ev x).bind cellsOf with
  |some (off,n),some ys=>if ys.length=n/\off+n<=cs.length then ic pl ev (cs.take off++ys++cs.drop (off+n)) rest else none
  |_,_=>none
def ew (ev:Operand->Option TV):List Operand->Option (List TV)
 |[]=>some []
 |x::l=>match ev x,ew ev l with
  |some t,some ts=>some (t::ts)
  |_,_=>none
def gY:List TV->Option (List AV)
 |[]=>some []
 | .one .junk::_=>none
 | .one x::l=>match gY l with
  |some cs=>some (x::cs)
  |none=>none
 |_::_=>none
def jO (a:Nat):List AV->Option (List (Nat×Nat×Nat))
 |[]=>some []
 | .ptr b r i j::l=>if b=a then(jO a l).map ((r,i,j):: ·)else none
 |_=>none
def Bu:Option TV->Option (FuncId×List TV)
 |some (.fn f cs)=>some (f,cs.map TV.one)
 |some (.one (.fn f a qs))=>some (f,qs.map fun q=>TV.one (.ptr a q.1 q.2.1 q.2.2))
 |some (.one (.p (.raw (.func (.func f) first caps))))=>if first.isEmpty&&caps.isEmpty then some (f,[])else none
 |_=>none
def bQ (P:Program) (ev:Operand->Option TV) (H:OH):Op->Option TV
 | .load t a=>match ev a with
  |some (.one (.p (.ptr cs)))=>kY P t (cs.map AV.p)
  |some (.one (.ptr a r i j))=>match(H a)[r]? with
   |some o=>match o.elems[i]? with
    |some e=>kY P t (e.drop j)
    |none=>none
   |none=>none
  |_=>none
 | .indexAddr t x ix=>match ev ix with
  |some (.one (.p (.raw (.int _ n))))=>match vN n with
   |none=>none
   |some i=>match db P t,ev x with
    |some e,some (.one (.p (.sl xs)))=>match xs[i]? with
     |some c=>if gh P e=some c.length then some (.one (.p (.ptr c)))else none
     |none=>none
    |some e,some (.one (.sl a r off len))=>match(H a)[r]? with
     |some o=>if gh P e=some o.es/\i<len then some (.one (.ptr a r (off+i) 0))else none
     |none=>none
    |none,some (.one (.p (.ptr cs)))=>match m8 P t with
     |some (n,e)=>match gh P e with
      |some sz=>if i<n then some (.one (.p (.ptr (cs.drop (i*sz)))))else none
      |none=>none
     |none=>none
    |none,some (.one (.ptr a r k j))=>match m8 P t with
     |some (n,e)=>match gh P e with
      |some sz=>if i<n then some (.one (.ptr a r k (j+i*sz)))else none
      |none=>none
     |none=>none
    |none,some (.one (.p (.raw (.pointer (some ⟨b,off,none⟩)))))=>match m8 P t with
     |some (n,e)=>match gh P e with
      |some sz=>if i<n then some (.one (.p (.raw (.pointer (some ⟨b,off+i*sz,none⟩)))))else none
      |none=>none
     |none=>none
    |_,_=>none
  |_=>none
 | .fieldAddr t x f=>match du P t f,ev x with
  |some (off,ft),some (.one (.p (.ptr cs)))=>match gh P ft with
   |some (_+1)=>some (.one (.p (.ptr (cs.drop off))))
   |_=>none
  |some (off,ft),some (.one (.ptr a r i j))=>match gh P ft with
   |some (_+1)=>some (.one (.ptr a r i (j+off)))
   |_=>none
  |_,_=>none
 | .field t x f=>match du P t f,ev x with
  |some (off,ft),some (.agg cs)=>kY P ft (cs.drop off)
  |_,_=>none
 | .index t x ix=>match ev ix with
  |some (.one (.p (.raw (.int _ n))))=>match vN n with
   |none=>none
   |some i=>match m8 P t,ev x with
    |some (m,e),some (.agg cs)=>match gh P e with
     |some sz=>if i<m then kY P e (cs.drop (i*sz))else none
     |none=>none
    |_,_=>none
  |_=>none
 | .slice t x (some lo) (some hi) (some mx)=>match db P t,ev x with
  |some e,some (.one (.sl a r off len))=>match dG ev (some lo) 0,dG ev (some hi) 0,dG ev (some mx) 0,(H a)[r]? with
   |some l,some h,some m,some o=>if gh P e=some o.es/\l<h/\h<=m/\m<=len/\5000<=a then some (.one (.sl a r (off+l) (h-l)))else none
   |_,_,_,_=>none
  |_,_=>none
 | .slice t x lo hi none=>match db P t,ev x with
  |some e,some (.one (.p (.sl xs)))=>match dG ev lo 0,dG ev hi xs.length,gh P e with
   |some l,some h,some n=>if l<=h/\h<=xs.length/\ ∀c∈xs,c.length=n then some (.one (.p (.sl ((xs.take h).drop l))))else none
   |_,_,_=>none
  |some e,some (.one (.sl a r off len))=>match dG ev lo 0,dG ev hi len,(H a)[r]? with
   |some l,some h,some o=>if gh P e=some o.es/\l<h/\h<=len then some (.one (.sl a r (off+l) (h-l)))else if gh P e=some o.es/\l=h/\h<=len then some (.one (.p (.sl [])))else none
   |_,_,_=>none
  |_,_=>none
 | .build t parts=>match dp P t,gR P t with
  |some z,some pl=>if z.all (·.oneCell')then(ic pl ev (z.map AV.raw) parts.toList).map TV.agg else none
  |_,_=>none
 | .nilCheck x=>match ev x with
  |some (.one (.p (.ptr cs)))=>some (.one (.p (.ptr cs)))
  |some (.one (.ptr a r i j))=>some (.one (.ptr a r i j))
  |_=>none
 | .makeFunc (.func f) first captured=>if first.isEmpty then((ew ev captured.toList).bind gY).map (TV.fn f)else none
 | .call {callee:= .builtin .len,args,argTypes}=>match args.toList,argTypes.toList with
  |[x],[t]=>match db P t,ev x with
   |some _,some (.one (.p (.sl xs)))=>some (.raw (.int .i64 xs.length))
   |some _,some (.one (.sl _ _ _ len))=>some (.raw (.int .i64 len))
   |some _,some (.one (.p (.raw (.slice _ n _))))=>some (.raw (.int .i64 n))
   |_,_=>none
  |_,_=>none
 |_=>none
def uC:Op->Bool
 | .load ..| .indexAddr ..| .fieldAddr ..| .field ..| .index ..| .slice ..| .build ..| .nilCheck ..| .makeFunc ..| .call {callee:= .builtin .len,..}=>true
 |_=>false
def isPure:AV->Bool
 | .p _=>true
 |_=>false
def ri:AV->PV
 | .p x=>x
 |_=> .raw undef
def cb (d:Nat):AV->AV
 | .sl _ r off len=> .sl d r off len
 | .ptr _ r i j=> .ptr d r i j
 | .fn f _ qs=>if qs.isEmpty then .junk else .fn f d qs
 |x=>x
theorem mv (d:Nat):lf (cb d):=fun _ _ qs=>by
 cases qs with
 |nil=>exact .inl rfl
 |cons q l=>exact .inr ⟨d,q::l,rfl,rfl,fun _ q hn=>⟨q,hn,rfl⟩⟩
theorem de (d:Nat) (x:AV):bG d (cb d x):=by
 cases x with
 |fn f a qs=>cases qs with
  |nil=>trivial
  |cons q l=>exact⟨rfl,by simp⟩
 |_=>first|rfl|trivial
theorem EY {d:Nat} {ρ ρ':Rho} {H H':OH} {X X':Nat->Prop} {w w':World} (h: ∀x v,zM x=true->bG 0 x->AV.rel ρ H X w (cb d x) v->AV.rel ρ' H' X' w' x v) (x:AV) (v:Value) (hs:bG 0 x) (k:AV.rel ρ H X w (cb d x) v):AV.rel ρ' H' X' w' x v:=by
 cases x with
 |fn f a qs=>
  cases qs with
  |nil=>exact absurd rfl hs.2
  |cons q0 l=>
  obtain⟨vs,h1,h2,h0,h3⟩:=k;refine⟨vs,h1,h2,h0,fun n q hn=>?_⟩;obtain⟨u,u1,u2⟩:=h3 n q hn;exact⟨u,u1,h (.ptr a q.1 q.2.1 q.2.2) u rfl hs.1 u2⟩
 |_=>exact h _ v rfl hs k
def renTV (d:Nat):TV->TV
 | .one x=> .one (cb d x)
 | .agg cs=> .agg (cs.map (cb d))
 | .tup ts=> .tup (ts.map fun t=>(t.1,t.2.map (cb d)))
 | .fn f cs=> .fn f (cs.map (cb d))
def renO (d:Nat) (o:OObj):OObj:={o with elems:=o.elems.map (List.map (cb d))}
def famH (d:Nat) (F:List OObj):OH:=fun a=>if a=d then F else[]
def aJ (H:OH) (d:Nat) (F:List OObj):OH:=fun a=>if a=d then F else H a
def a6 (k:Nat->Nat->Bool):AV->AV
 | .sl a r off len=>if k a r then .junk else .sl a r off len
 | .ptr a r i j=>if k a r then .junk else .ptr a r i j
 | .fn f a qs=>if qs.any (fun q=>k a q.1)then .junk else .fn f a qs
 |x=>x
theorem nt (k:Nat->Nat->Bool):lf (a6 k):=fun f a qs=>by
 by_cases h:qs.any (fun q=>k a q.1)=true
 ·exact .inl (if_pos h)
 refine .inr ⟨a,qs,if_neg h,rfl,fun n q hn=>⟨q,hn,?_⟩⟩;have:k a q.1=false:=by
  simp only[List.any_eq_true,not_exists,not_and,Bool.not_eq_true]at h;exact h q (List.mem_of_getElem? hn)
 simp[a6,this]
def a7 (k:Nat->Nat->Bool):TV->TV
 | .one x=> .one (a6 k x)
 | .agg cs=> .agg (cs.map (a6 k))
 | .tup ts=> .tup (ts.map fun t=>(t.1,t.2.map (a6 k)))
 | .fn f cs=> .fn f (cs.map (a6 k))
def i4 (k:Nat->Nat->Bool) (o:OObj):OObj:={o with elems:=o.elems.map (List.map (a6 k))}
structure CallRes where
 fam:List OObj
 r:TV
def callable (P:Program) (f:FuncId):Bool:=match P.funcs[f]? with
 | some fn => fn.body.isSome && !(fn.name == "runtime.NumGoroutine")
 |none=>false
def CallC (P:Program) (f:FuncId) (args:List TV) (res:CallRes):Prop:=
 callable P f=true/\ ∀(X:Nat->Prop) (w:World) (vs:Array Value),(∀b,X b->b<w.heap.size)->vs.size=args.length->
  (∀(j:Nat) t,args[j]?=some t-> ∃v:Value,vs[j]?=some v/\t.rel (fun _ _=>none) (fun _=>[]) X w v)->
  Calls P f vs w fun e w'=> ∃v,e= .returned v/\ ∃ρ:Rho,
   Inv w (fun _=>False) X (famH 0 res.fam) ρ w'/\res.r.rel ρ (famH 0 res.fam) (Xo X ρ (famH 0 res.fam)) w' v
def oZ:AV->Bool
 | .p (.raw _)=>true
 |_=>false
def l6:TV->Bool
 | .one x=>oZ x
 | .agg cs=>cs.all oZ
 | .tup ts=>ts.all fun t=>t.2.all oZ
 | .fn _ cs=>cs.all oZ
def CallRes.plain (res:CallRes):Bool:=res.fam.isEmpty&&l6 res.r
def dZ:AV->Bool
 | .sl ..=>false
 | .ptr ..=>false
 | .fn ..=>false
 |_=>true
def noRefTV:TV->Bool
 | .one x=>dZ x
 | .agg cs=>cs.all dZ
 | .tup ts=>ts.all fun t=>t.2.all dZ
 | .fn _ cs=>cs.all dZ
structure cQ (P:Program) where
 i:Nat
 f:FuncId
 args:List TV
 res:CallRes
structure aH (P:Program) where
 i:Nat
 f:FuncId
 args:List TV
 res:CallRes
 h:CallC P f args res
def aH.a {P:Program} (it:aH P):cQ P:=⟨it.i,it.f,it.args,it.res⟩
def fL (P:Program) (items:List (cQ P)):Prop:= ∀it∈items,CallC P it.f it.args it.res
theorem aH.ok {P:Program} (items:List (aH P)):fL P (items.map aH.a):=fun it hit=>by
 obtain⟨x,_,rfl⟩:=List.mem_map.1 hit;exact x.h
def fJ (H:OH):TV->TV
 | .one (.sl a r off len)=>match(H a)[r]? with
  |some o=> .one (.p (.sl ((((o.elems.take (off+len)).drop off)).map (List.map ri))))
  |none=> .one .junk
 | .one (.p (.raw (.slice none 0 0)))=> .one (.p (.sl []))
 |t=>t
def dU (own:Bool) (H:OH):TV->Bool
 | .one (.sl a r _ _)=>own&&match(H a)[r]? with
  |some o=>o.elems.all fun e=>e.all isPure
  |none=>false
 | .one (.p _)=>true
 | .agg cs=>cs.all isPure
 | .fn _ cs=>cs.all isPure
 |_=>false
def fA (H:OH):TV->Option (List (List AV))
 | .one (.p (.sl xs))=>some (xs.map (List.map AV.p))
 | .one (.p (.raw (.slice none 0 0)))=>some []
 | .one (.sl a r off len)=>match(H a)[r]? with
  |some o=>if o.elems.all fun e=>e.all isPure then some ((o.elems.take (off+len)).drop off)else none
  |none=>none
 |_=>none
def nn (ev:Operand->Option TV) (n:Nat):Nat->List (Nat×Operand)->Option (List (List AV))
 |_,[]=>some []
 |i,(k,x)::rest=>match(ev x).bind cellsOf,nn ev n (i+1) rest with
  |some cs,some l=>if k=i/\cs.length=n/\cs.all isPure then some (cs::l)else none
  |_,_=>none
open Classical in
noncomputable def cf (P:Program) (items:List (cQ P)) (ow:List Nat) (i d:Nat) (ev:Operand->Option TV) (H:OH):Op->Option (TV×List OObj)
 | .box e x=>match(ev x).bind cellsOf with
  |some cs=>if cs.all isPure/\0<cs.length then some (.one (.ptr d 0 0 0),[⟨e,cs.length,[cs]⟩])else none
  |none=>none
 | .alloc e=>match dp P e with
  |some z=>if z.all (·.oneCell')/\0<z.length then some (.one (.ptr d 0 0 0),[⟨e,z.length,[z.map AV.raw]⟩])else none
  |none=>none
 | .makeSlice t l c=>match ev l,ev c,db P t with
  |some (.one (.p (.raw (.int _ n)))),some (.one (.p (.raw (.int _ m)))),some e=>match dp P e,gh P e,E3 P e with
   |some z,some sz,some by_=>if 0<=n/\n<=m/\m<=9223372036854775807/\(by_:Int)*m<=281474976710656/\z.length=sz/\0<sz/\z.all (·.oneCell')then
     some (.one (.sl d 0 0 n.toNat),[⟨e,sz,List.replicate n.toNat (z.map AV.raw)⟩])else none
   |_,_,_=>none
  |_,_,_=>none
 | .buildSlice t n parts=>match db P t with
  |some e=>match dp P e,gh P e with
   |some z,some sz=>match nn ev sz 0 parts.toList with
    |some l=>if l.length=n/\n*sz<=16777216/\z.length=sz/\0<sz then
      if ow.contains d then some (.one (.sl d 0 0 n),[⟨e,sz,l⟩])else some (.one (.p (.sl (l.map (List.map ri)))),[])else none
    |none=>none
   |_,_=>none
  |none=>none
 | .call c=>match c.callee with
  | .value (.func f)=>match items.find? (·.i==i),ew ev c.args.toList with
   |some it,some ts=>if it.f=f/\ts.map (fJ H)=it.args/\ts.all (dU it.res.plain H)/\(!it.res.fam.isEmpty||noRefTV it.res.r)then some (renTV d it.res.r,it.res.fam.map (renO d))else none
   |_,_=>none
  | .value (.tmp k)=>match Bu (ev (.tmp k)),items.find? (·.i==i),ew ev c.args.toList with
   |some (f,extra),some it,some ts=>if it.f=f/\(ts++extra).map (fJ H)=it.args/\(ts++extra).all (dU it.res.plain H)/\(!it.res.fam.isEmpty||noRefTV it.res.r)then some (renTV d it.res.r,it.res.fam.map (renO d))else none
   |_,_,_=>none
  | .builtin .append=>match c.args.toList,c.argTypes.toList with
   |[s,x],[t,t']=>match ev s,(ev x).bind (fA H),db P t with
    |some (.one (.p (.raw (.slice none 0 0)))),some news,some e=>match dp P e,gh P e,E3 P e with
     |some z,some sz,some by_=>if t=t'/\news.length*by_<=140737488355328/\news.length<=9223372036854775807/\z.length=sz/\0<sz/\(∀e∈news,e.length=sz)then
       some (.one (.sl d 0 0 news.length),[⟨e,sz,news⟩])else none
     |_,_,_=>none
    |_,_,_=>none
   |_,_=>none
  |_=>none
 |_=>none
def putCells (e:List AV) (j:Nat) (cs:List AV):List AV:=e.take j++cs++e.drop (j+cs.length)
def ML (a:Nat):AV->Bool
 | .p _=>true
 | .sl b _ _ _=>b==a
 |_=>false
structure A3 where
 t:TV
 H:OH
 k:Nat->Nat->Bool
def eY (P:Program) (ev:Operand->Option TV) (H:OH):Op->Option A3
 | .store t a x=>match ev a,gh P t with
  |some (.one (.ptr a r i j)),some n=>match(H a)[r]? with
   |some o=>match o.elems[i]? with
    |some e=>match ev x with
     |some (.one (.sl a' r' off len))=>
      if a'=a then
       if n=1/\j<e.length then some ⟨.undef,aJ H a ((H a).set r {o with elems:=o.elems.set i (putCells e j [.sl a' r' off len])}),fun _ _=>false⟩else none
      else match H a' with
       |[ob]=>if a'<=4999/\r'=0/\off=0/\len=ob.elems.length/\n=1/\j<e.length/\ob.elems.all (fun e=>e.all isPure)then
         some ⟨.undef,aJ (aJ H a ((H a).set r {o with elems:=o.elems.set i (putCells e j [.sl a (H a).length 0 len])}++[ob])) a' [],fun x _=>x==a'⟩else none
       |_=>none
     |some (.fn f cs)=>match jO a cs with
      |some qs=>if n=1/\j<e.length/\0<qs.length then some ⟨.undef,aJ H a ((H a).set r {o with elems:=o.elems.set i (putCells e j [.fn f a qs])}),fun _ _=>false⟩else none
      |none=>none
     |some v=>match cellsOf v with
      |some cs=>if cs.length=n/\j+n<=e.length/\cs.all (ML a)then
        some ⟨.undef,aJ H a ((H a).set r {o with elems:=o.elems.set i (putCells e j cs)}),fun _ _=>false⟩else none
      |none=>none
     |none=>none
    |none=>none
   |none=>none
  |_,_=>none
 | .call c=>match c.callee,c.args.toList,c.argTypes.toList with
  | .builtin .append,[s,x],[t,t']=>match ev s,(ev x).bind (fA H),db P t with
   |some (.one (.sl a r off len)),some news,some e=>match(H a)[r]?,dp P e,gh P e,E3 P e with
    |some o,some z,some sz,some by_=>if a<=4999/\t=t'/\o.ty=e/\o.es=sz/\o.elems.all (fun e=>e.all isPure)/\off=0/\len=o.elems.length/\(len+news.length)*by_<=140737488355328/\len+news.length<=9223372036854775807/\z.length=sz/\(∀e∈news,e.length=sz)then
      some ⟨.one (.sl a r 0 (len+news.length)),aJ H a (((H a).map (i4 fun x y=>x==a&&y==r)).set r {o with elems:=o.elems++news}),fun x y=>x==a&&y==r⟩else none
    |_,_,_,_=>none
   |_,_,_=>none
  |_,_,_=>none
 |_=>none
noncomputable def dr (P:Program) (items:List (cQ P)) (ow:List Nat) (i:Nat) (o:Oper) (s:AS):Option AS:=
 if mR o.op then(iB P s.ev o.op).map (s.put o.dst)
 else if uC o.op then(bQ P s.ev s.H o.op).map (s.put o.dst)
 else match eY P s.ev s.H o.op with
  |some q=>some (AS.put ⟨s.tmps.map (a7 q.k),q.H⟩ o.dst q.t)
  |none=>match o.dst with
   |none=>none
   |some d=>match cf P items ow i d s.ev s.H o.op with
    |some (t,[])=>some (s.put (some d) t)
    |some (t,F)=>match s.H d with
     |[]=>some (AS.put ⟨s.tmps,aJ s.H d F⟩ (some d) t)
     |_=>none
    |none=>none
noncomputable def bf (P:Program) (items:List (cQ P)) (ow:List Nat) (ops:Array Oper) (i:Nat) (o:Oper) (s:AS):Option AS:=
 match o.guard with
 |none=>dr P items ow i o s
 |some (g,want)=>match(ops[g]?).bind (·.dst)with
  |none=>none
  |some d=>match s.tmps[d]? with
   |some (.one (.p (.raw (.bool b))))=>if b=want then dr P items ow i o s else some (s.put o.dst .undef)
   |some (.tup [])=>some (s.put o.dst .undef)
   |_=>none
noncomputable def eD (P:Program) (items:List (cQ P)) (ow:List Nat) (ops:Array Oper):List (Oper×Nat)->AS->Option AS
 |[],s=>some s
 |(o,i)::rest,s=>match bf P items ow ops i o s with
  |some s'=>eD P items ow ops rest s'
  |none=>none
section
section
variable {P:Program} {ρ:Rho} {H:OH} {X:Nat->Prop} {w:World}
def gk (ρ:Rho) (H:OH) (X:Nat->Prop) (w:World) (ev:Operand->Option TV) (e:Operand->Value):Prop:= ∀x t,ev x=some t->TV.rel ρ H X w t (e x)
theorem bs {a v:Value} (h:TV.rel ρ H X w (.raw a) v):v=a/\a.oneCell'=true:=by
 cases h with
 |raw v h=>exact⟨rfl,h⟩
theorem b7 {a:Value} (h:a.oneCell'=true):TV.rel ρ H X w (.raw a) a:=bX.raw a h
theorem zN (v:Value):TV.rel ρ H X w (mz v) v:=by
 unfold mz;split
 ·rename_i cs;split
  ·rename_i h;simp only[List.all_eq_true]at h;refine⟨cs,rfl,by simp,fun j x hx=>?_⟩;rw[List.getElem?_map]at hx;cases hj:cs.toList[j]? with
   |none=>rw[hj]at hx;cases hx
   |some u=>
    rw[hj]at hx;simp at hx;subst hx;have h1:u.oneCell'=true:=h u (List.mem_of_getElem? hj);exact⟨u,by simpa using hj,h1,bX.raw u h1⟩
  exact trivial
 split
 ·exact bX.raw _ (by assumption)
 exact trivial
theorem za {op:BinOp} {a b v:Value} {t:TypeId} (h:vC (vq P t) op a b=some v) (x y:Operand):
  (do eqGuard op t x y a b;binOp op t a b:Sem Value).run P w= .ok v w/\v.oneCell'=true:=by
 unfold vC at h;split at h
 case h_1|h_2|h_3|h_8|h_9|h_10|h_11|h_12|h_13|h_14|h_15|h_16|h_17=>
  split at h
  ·rename_i hk;subst hk;injection h with h
   subst h;refine⟨?_,rfl⟩;show(if _≠_ then _ else _:Sem Value).run P w=_;rw[if_neg (fun h=>h rfl)];rfl
  cases h
 case h_4|h_5=>
  split at h
  ·rename_i hk;obtain⟨hk,hb⟩:=hk;subst hk;injection h with h
   subst h;refine⟨?_,rfl⟩;show(if _≠_ then _ else(if _=_ then _ else _):Sem Value).run P w=_;rw[if_neg (fun h=>h rfl),if_neg hb];rfl
  cases h
 case h_6|h_7=>
  split at h
  ·rename_i hb;injection h with h
   subst h;refine⟨?_,rfl⟩;show(if _<_ then _ else _:Sem Value).run P w=_;rw[if_neg (by omega)];rfl
  cases h
 case h_18|h_19=>
  split at h
  ·rename_i hb;injection h with h
   subst h;have ht:P.underlying t=some .bool:=by
    unfold vq at hb;split at hb
    ·assumption
    cases hb
   refine⟨?_,rfl⟩
   first
    |exact run_eql_bool w t _ _ ht
    |exact run_neq_bool w t _ _ ht
  cases h
 case h_20=>cases h
theorem BV {op:UnOp} {a v:Value} (h:Fo op a=some v):(Op.unary op a).run P w= .ok v w/\v.oneCell'=true:=by
 unfold Fo at h;split at h
 ·injection h with h;subst h;exact⟨rfl,rfl⟩
 ·injection h with h;subst h;exact⟨rfl,rfl⟩
 cases h
theorem df {s:Sem Value} {v:Value} {w':World} (h:s.run P w= .ok v w'):(do pure (Next.value (<- s)):Sem Next).run P w= .ok (.value v) w':=by
 rw[Sem.run_bind,h];rfl
theorem Or {s:Sem Unit} {w':World} (h:s.run P w= .ok () w'):(do s;pure Next.skip:Sem Next).run P w= .ok .skip w':=by
 rw[Sem.run_bind,h];rfl
theorem gW {t e:TypeId} {n:Nat} (h:m8 P t=some (n,e)):P.underlying t=some (.array n e):=by
 unfold m8 at h;cases hu:P.underlying t with
 |none=>rw[hu]at h;cases h
 |some d=>rw[hu]at h;cases d<;>simp at h;rw[h.1,h.2]
theorem kZ {d k0:Nat} {e:TypeId} {kk:IntKind} (hu:P.underlying e=some (.int kk)) (hag:(isAgg e).run P w= .ok false w) {vs us:Array Value}: ∀(xs ys:List AV) (m:Nat) (b:Bool),IC xs ys=some b->
  (∀(j:Nat) x,xs[j]?=some x-> ∃u:Value,vs[m+j]?=some u/\x.rel ρ H X w u)->(∀(j:Nat) x,ys[j]?=some x-> ∃u:Value,us[m+j]?=some u/\x.rel ρ H X w u)->
  (Op.eqItems (d+1) e 1 vs us (List.range' m xs.length)).run P w= .ok b w
 |[],[],m,b,h,_,_=>by
  simp only[IC]at h;injection h with h
  subst h;simp[Op.eqItems]
 | .p (.raw (.int k a))::xs,.p (.raw (.int k' b'))::ys,m,b,h,h1,h2=>by
  simp only[IC]at h;split at h
  ·rename_i c hc;split at h
   ·rename_i hk;subst hk;injection h with h
    subst h;obtain⟨u,u1,u2⟩:=h1 0 _ rfl;obtain⟨u',u3,u4⟩:=h2 0 _ rfl;have e1:=(bs (H:=H) (ρ:=ρ) (X:=X) (w:=w) (v:=u) u2).1;have e2:=(bs (H:=H) (ρ:=ρ) (X:=X) (w:=w) (v:=u') u4).1;subst e1 e2;have ih:=kZ (d:=d) (k0:=k0) hu hag (vs:=vs) (us:=us) xs ys (m+1) c hc (fun j x hx=>by
     have:=h1 (j+1) x (by simpa using hx);rwa[show m+1+j=m+(j+1) by omega]) (fun j x hx=>by
     have:=h2 (j+1) x (by simpa using hx);rwa[show m+1+j=m+(j+1) by omega])
    simp only[List.length_cons,List.range'_succ,Op.eqItems,Sem.run_bind];have p1:(part e vs (m*1)).run P w= .ok (.int k a) w:=by
     unfold part;rw[Sem.run_bind,hag,ak,if_neg (by simp),Nat.mul_one,show vs[m]?=_ from u1];rfl
    have p2:(part e us (m*1)).run P w= .ok (.int k b') w:=by
     unfold part;rw[Sem.run_bind,hag,ak,if_neg (by simp),Nat.mul_one,show us[m]?=_ from u3];rfl
    rw[p1,ak,p2,ak];have p3:(Op.equalIn (d+1) e (.int k a) (.int k b')).run P w= .ok (a==b') w:=by
     simp[Op.equalIn,Sem.run_bind,run_underlying hu]
    rw[p3,ak];by_cases hab:a=b'
    ·subst hab;simp[ih]
    simp[hab]
   cases h
  cases h
 |[],_::_,_,_,h,_,_=>by simp[IC]at h
 | .p (.raw (.int _ _))::_,[],_,_,h,_,_=>by simp[IC]at h
theorem y7 {op:BinOp} {t:TypeId} {xs ys:List AV} {T:TV} (h:y6 P op t xs ys=some T) {vs us:Value} (hv:bJ ρ H X w xs vs) (hu:bJ ρ H X w ys us) (x y:Operand):
  ∃v,(do eqGuard op t x y vs us;binOp op t vs us:Sem Value).run P w= .ok v w/\T.rel ρ H X w v:=by
 obtain⟨vs,rfl,v1,v2⟩:=hv;obtain⟨us,rfl,u1,u2⟩:=hu;have key: ∀n b,Bp P t=some n->IC xs ys=some b->xs.length=n->(Op.equalIn 10000 t (.agg vs) (.agg us)).run P w= .ok b w/\P.eqGuardType P.depth t=false:=fun n b hn hb hl=>by
  unfold Bp at hn;split at hn
  ·rename_i m e ha;split at hn
   ·rename_i hc;obtain⟨c1,c2,c3,c4⟩:=hc;injection hn with hn
    subst hn;refine⟨?_,c4⟩;obtain⟨kk,hk⟩: ∃kk,P.underlying e=some (.int kk):=by
     unfold uQ at c1;cases hu:P.underlying e with
     |none=>rw[hu]at c1;exact absurd rfl c1
     |some d=>rw[hu]at c1;cases d<;>first|exact⟨_,rfl⟩|exact absurd rfl c1
    obtain⟨i,hi,hsz⟩: ∃i,P.info? e=some i/\i.size=1:=by
     unfold gh at c3;cases hi:P.info? e with
     |none=>rw[hi]at c3;cases c3
     |some i=>rw[hi]at c3;simp at c3;exact⟨i,rfl,c3⟩
    have hag:(isAgg e).run P w= .ok false w:=by
     unfold isAgg;rw[Sem.run_bind,run_underlying hk,ak];rfl
    rw[show(10000:Nat)=9999+1 from rfl,run_equalIn_array w 9999 vs us (gW ha) hi];have hcs:P.cellsOf e=1:=by simp[Program.cellsOf,hi,hsz]
    rw[hcs,List.range_eq_range',<- hl];exact kZ (d:=9998) (k0:=0) hk hag xs ys 0 b hb (fun j x hx=>by obtain⟨u,h1,_,h2⟩:=v2 j x hx;exact⟨u,by simpa using h1,h2⟩) (fun j x hx=>by obtain⟨u,h1,_,h2⟩:=u2 j x hx;exact⟨u,by simpa using h1,h2⟩)
   cases hn
  cases hn
 have guard: ∀op',P.eqGuardType P.depth t=false->(eqGuard op' t x y (.agg vs) (.agg us)).run P w= .ok () w:=fun op' hg=>by
  cases op'<;>first|rfl|simp[eqGuard,hg]
 unfold y6 at h;split at h
 ·rename_i n b hn hb;split at h
  ·rename_i hl;injection h with h
   subst h;obtain⟨k1,k2⟩:=key n b hn hb hl;refine⟨.bool b,?_,b7 rfl⟩;rw[Sem.run_bind,guard _ k2,ak,run_eql_struct,k1];rfl
  cases h
 ·rename_i n b hn hb;split at h
  ·rename_i hl;injection h with h
   subst h;obtain⟨k1,k2⟩:=key n b hn hb hl;refine⟨.bool !b,?_,b7 rfl⟩;rw[Sem.run_bind,guard _ k2,ak];show((do let r<- Op.equal t (.agg vs) (.agg us);pure (.bool !r):Sem Value)).run P w=_;rw[Sem.run_bind];have:(Op.equal t (.agg vs) (.agg us)).run P w= .ok b w:=k1;rw[this];rfl
  cases h
 cases h
theorem tf {t:TV} {b:Bool} {v:Value} (h:tc t=some b) (hr:t.rel ρ H X w v): ∃a n c,v= .slice a n c/\(b=true↔a=none):=by
 unfold tc at h;split at h
 ·injection h with h
  subst h;have:=(bs hr).1;exact⟨none,_,_,this,by simp⟩
 ·injection h with h
  subst h;have hr:bX X w _ v:=hr;cases hr with
  |sl=>exact⟨_,_,_,rfl,by simp⟩
 cases h
theorem zL {op:BinOp} {t:TypeId} {tx ty:Option TV} {T:TV} (h:vQ P op t tx ty=some T) {v u:Value} (hv: ∀x,tx=some x->x.rel ρ H X w v) (hu: ∀x,ty=some x->x.rel ρ H X w u) (x y:Operand):
  ∃r,(do eqGuard op t x y v u;binOp op t v u:Sem Value).run P w= .ok r w/\T.rel ρ H X w r:=by
 have key: ∀e b,db P t=some e->tx.bind tc=some b->ty.bind tc=some true-> ∃a n c m k,v= .slice a n c/\u= .slice none m k/\(Op.equal t v u).run P w= .ok b w:=fun e b he hb hy=>by
  obtain⟨x1,hx1,hx2⟩:=Option.bind_eq_some_iff.1 hb;obtain⟨y1,hy1,hy2⟩:=Option.bind_eq_some_iff.1 hy;obtain⟨a,n,c,rfl,ha⟩:=tf hx2 (hv _ hx1);obtain⟨a',m,k,rfl,ha'⟩:=tf hy2 (hu _ hy1);have ha':=ha'.1 rfl;subst ha';refine⟨a,n,c,m,k,rfl,rfl,?_⟩;have hun:P.underlying t=some (.slice e):=by
   unfold db at he;cases hu:P.underlying t with
   |none=>rw[hu]at he;cases he
   |some d=>rw[hu]at he;cases d<;>simp at he;rw[he]
  suffices hd: ∀d,(Op.equalIn (d+1) t (.slice a n c) (.slice none m k)).run P w= .ok b w from hd 9999
  intro d;cases a with
  |none=>
   rw[ha.2 rfl];simp[Op.equalIn,Sem.run_bind,run_underlying hun]
  |some a=>
   have:b=false:=by
    cases b with
    |false=>rfl
    |true=>exact absurd (ha.1 rfl) (by simp)
   subst this;simp[Op.equalIn,Sem.run_bind,run_underlying hun]
 unfold vQ at h;split at h
 ·rename_i e b he hb hy;injection h with h
  subst h;obtain⟨a,n,c,m,k,rfl,rfl,hq⟩:=key _ _ he hb hy;refine⟨.bool b,?_,b7 rfl⟩;rw[Sem.run_bind,show(eqGuard .eql t x y (.slice a n c) (.slice none m k)).run P w= .ok () w from rfl,ak];show((do let r<- Op.equal t (.slice a n c) (.slice none m k);pure (.bool r):Sem Value)).run P w=_;rw[Sem.run_bind,hq];rfl
 ·rename_i e b he hb hy;injection h with h
  subst h;obtain⟨a,n,c,m,k,rfl,rfl,hq⟩:=key _ _ he hb hy;refine⟨.bool !b,?_,b7 rfl⟩;rw[Sem.run_bind,show(eqGuard .neq t x y (.slice a n c) (.slice none m k)).run P w= .ok () w from rfl,ak];show((do let r<- Op.equal t (.slice a n c) (.slice none m k);pure (.bool !r):Sem Value)).run P w=_;rw[Sem.run_bind,hq];rfl
 cases h
theorem j5 {f:Int->Int->Int} {l:List (Option TV)} {t:TV} (h:Li f l=some t): ∃k k' a b,l=[some (.one (.p (.raw (.int k a)))),some (.one (.p (.raw (.int k' b))))]/\t= .raw (.int k (f a b)):=by
 unfold Li at h;split at h
 ·injection h with h;exact⟨_,_,_,_,rfl,h.symm⟩
 cases h
theorem xu {α β:Type} {f:α->β} {l:List α} {x y:β} (h:l.map f=[x,y]): ∃a b,l=[a,b]/\f a=x/\f b=y:=by
 match l,h with
 |[a,b],h=>simp at h;exact⟨a,b,rfl,h.1,h.2⟩
theorem sv {ev:Operand->Option TV} {e:Operand->Value} (hev:gk ρ H X w ev e) {o:Oper} {t:TV} (h:iB P ev o.op=some t):
  ∃v,(execOp e o).run P w= .ok (.value v) w/\t.rel ρ H X w v:=by
 unfold execOp;cases ho:o.op<;>rw[ho]at h<;>simp only[iB]at h<;>try cases h
 case call c=>
  obtain⟨callee,args,argTypes⟩:=c;unfold RK at h;split at h
  ·rename_i hc;simp only at hc;subst hc;obtain⟨k,k',a,b,hl,rfl⟩:=j5 h;obtain⟨x,y,hxy,h1,h2⟩:=xu hl;obtain⟨args⟩:=args;simp only at hxy;subst hxy;refine⟨_,?_,b7 rfl⟩;have e1:=(bs (hev x _ h1)).1;have e2:=(bs (hev y _ h2)).1;simp only[resolve,invoke,builtin,Sem.run_bind,Sem.run_pure,ak,List.map_toArray,List.map_cons,List.map_nil,e1,e2];rfl
  ·rename_i hc;simp only at hc;subst hc;obtain⟨k,k',a,b,hl,rfl⟩:=j5 h;obtain⟨x,y,hxy,h1,h2⟩:=xu hl;obtain⟨args⟩:=args;simp only at hxy;subst hxy;refine⟨_,?_,b7 rfl⟩;have e1:=(bs (hev x _ h1)).1;have e2:=(bs (hev y _ h2)).1;simp only[resolve,invoke,builtin,Sem.run_bind,Sem.run_pure,ak,List.map_toArray,List.map_cons,List.map_nil,e1,e2];rfl
  cases h
 case move x=>exact⟨_,rfl,hev x t h⟩
 case assign x=>exact⟨_,rfl,hev x t h⟩
 case pick c a b=>
  split at h
  ·rename_i hc;have:=(bs (hev c _ hc)).1;refine⟨e a,?_,hev a t h⟩;simp only[this];rfl
  ·rename_i hc;have:=(bs (hev c _ hc)).1;refine⟨e b,?_,hev b t h⟩;simp only[this];rfl
  cases h
 case binOp op ty x y yt=>
  split at h
  ·obtain⟨v,h3,h4⟩:=zL h (fun t ht=>hev x t ht) (fun t ht=>hev y t ht) x y;exact⟨v,df h3,h4⟩
  split at h
  ·rename_i a b ha hb;have h1:=(bs (hev x _ ha)).1;have h2:=(bs (hev y _ hb)).1;cases hv:vC (vq P ty) op a b with
   |none=>rw[hv]at h;cases h
   |some v=>
    rw[hv]at h;simp at h;subst h;obtain⟨h3,h4⟩:=za (P:=P) (w:=w) hv x y;refine⟨v,?_,b7 h4⟩;simp only[h1,h2];exact df h3
  ·rename_i xs ys ha hb;obtain⟨v,h3,h4⟩:=y7 h (hev x _ ha) (hev y _ hb) x y;exact⟨v,df h3,h4⟩
  cases h
 case unOp op ty x=>
  split at h
  ·rename_i a ha;have h1:=(bs (hev x _ ha)).1;cases hv:Fo op a with
   |none=>rw[hv]at h;cases h
   |some v=>
    rw[hv]at h;simp at h;subst h;obtain⟨h3,h4⟩:=BV (P:=P) (w:=w) hv;refine⟨v,?_,b7 h4⟩;simp only[h1];exact df h3
  cases h
 case convert src dst x=>
  split at h
  ·rename_i k n ds k' ha hs hk;have h1:=(bs (hev x _ ha)).1;injection h with h
   subst h;have hd:P.underlying dst=some (.int k'):=by
    unfold uQ at hk;cases hu:P.underlying dst with
    |none=>rw[hu]at hk;cases hk
    |some d=>rw[hu]at hk;cases d<;>simp at hk;rw[hk]
   refine⟨_,?_,b7 rfl⟩;simp only[h1];refine df ?_;unfold convert;rw[Sem.run_bind,run_underlying hs,ak,Sem.run_bind,run_underlying hd,ak];rfl
  cases h
 case extract x i=>
  split at h
  ·rename_i ts ha;obtain⟨vs,hvs,hsz,hr⟩:=hev x _ ha;split at h
   ·rename_i cs hi;injection h with h
    subst h;obtain⟨u,hu,hc⟩:=hr i _ _ hi;rcases hc with⟨_,hc⟩|⟨hc,_⟩
    ·refine⟨u,?_,hc⟩;refine df ?_;simp only[hvs,Instr.extract,hu];rfl
    cases hc
   ·rename_i y hi;injection h with h
    subst h;obtain⟨u,hu,hc⟩:=hr i _ _ hi;rcases hc with⟨hc,_⟩|⟨_,z,hz,hc⟩
    ·cases hc
    injection hz with hz
    subst hz;refine⟨u,?_,hc⟩;refine df ?_;simp only[hvs,Instr.extract,hu];rfl
   cases h
  cases h
end
end
section
section
variable {P:Program} {ρ:Rho} {H:OH} {X:Nat->Prop} {w:World}
theorem py {t:TypeId} {n:Nat} (h:gh P t=some n): ∃i,P.info? t=some i/\i.size=n:=by
 unfold gh at h;cases hi:P.info? t with
 |none=>rw[hi]at h;cases h
 |some i=>rw[hi]at h;simp at h;exact⟨i,rfl,h⟩
theorem xQ {t:TypeId} {i:TypeInfo} (h:P.info? t=some i):(typeInfo t).run P w= .ok i w:=by
 unfold typeInfo;show (match P.info? t with | some i => pure i | none => stuck "no such type" : Sem TypeInfo).run P w = _;rw[h];rfl
theorem dz {t:TypeId} {n:Nat} (h:gh P t=some n):(sizeOf t).run P w= .ok n w:=by
 obtain⟨i,hi,hn⟩:=py h;unfold sizeOf;rw[Sem.run_bind,xQ hi,ak,hn];rfl
theorem pc {t:TypeId} {b:Bool} (h:fH P t=some b):(isAgg t).run P w= .ok b w:=by
 unfold fH at h;cases hu:P.underlying t with
 |none=>rw[hu]at h;cases h
 |some d=>
  rw[hu]at h;unfold isAgg;rw[Sem.run_bind,run_underlying hu,ak];cases d<;>simp at h<;>subst h<;>rfl
theorem dn {t e:TypeId} (h:db P t=some e):P.underlying t=some (.slice e):=by
 unfold db at h;cases hu:P.underlying t with
 |none=>rw[hu]at h;cases h
 |some d=>rw[hu]at h;cases d<;>simp at h;rw[h]
theorem lJ {t:TypeId} {f off:Nat} {ft:TypeId} (h:du P t f=some (off,ft)): ∃fs d,P.underlying t=some (.struct fs)/\fs[f]?=some d/\d.offset=off/\d.type=ft:=by
 unfold du at h;cases hu:P.underlying t with
 |none=>rw[hu]at h;cases h
 |some d=>
  rw[hu]at h;cases d<;>simp at h;rename_i fs;obtain⟨d,hd,h1,h2⟩:=h;exact⟨fs,d,rfl,hd,h1,h2⟩
def mi (ρ:Rho) (H:OH) (X:Nat->Prop) (w:World) (b off:Nat) (cs:List AV):Prop:=
 ∀(j:Nat) x,cs[j]?=some x-> ∃v:Value,w.cell? ⟨b,off+j,none⟩=some v/\v.oneCell'=true/\x.rel ρ H X w v
theorem kx {b off:Nat} {cs:List AV} (h:mi ρ H X w b off cs) (k:Nat):mi ρ H X w b (off+k) (cs.drop k):=by
 intro j x hx;rw[List.getElem?_drop]at hx;obtain⟨v,h1,h2⟩:=h _ _ hx;exact⟨v,by rw[<- Nat.add_assoc]at h1;exact h1,h2⟩
theorem wY {b off:Nat} {cs:List AV} (h:mi ρ H X w b off cs):
  ∃vs:List Value,vs.length=cs.length/\(∀(j:Nat) v,vs[j]?=some v->w.cell? ((⟨b,off,none⟩:Addr).add j)=some v)/\(∀(j:Nat) x,cs[j]?=some x-> ∃u:Value,vs[j]?=some u/\u.oneCell'=true/\x.rel ρ H X w u):=by
 induction cs generalizing off with
 |nil=>exact⟨[],rfl,fun j v hv=>by simp at hv,fun j x hx=>by simp at hx⟩
 |cons c cs ih=>
  obtain⟨v,h1,h2,h3⟩:=h 0 c rfl;obtain⟨vs,l1,l2,l3⟩:=ih (off:=off+1) (kx (cs:=c::cs) h 1);refine⟨v::vs,by simp[l1],fun j u hu=>?_,fun j x hx=>?_⟩
  ·cases j with
   |zero=>simp at hu;subst hu;simpa[Addr.add_lit] using h1
   |succ j=>
    simp at hu;have:=l2 j u hu;rw[Addr.add_lit]at this⊢;rw[<- this];congr 2;omega
  cases j with
  |zero=>simp at hx;subst hx;exact⟨v,rfl,h2,h3⟩
  |succ j=>simp at hx;obtain⟨u,h⟩:=l3 j x hx;exact⟨u,by simpa using h.1,h.2⟩
theorem np {t:TypeId} {cs:List AV} {T:TV} {b off:Nat} (h:kY P t cs=some T) (hc:mi ρ H X w b off cs):
  ∃v,(loadVar t ⟨b,off,none⟩).run P w= .ok v w/\T.rel ρ H X w v:=by
 unfold kY at h;split at h
 ·rename_i n hn ha;split at h
  ·rename_i hl;injection h with h
   subst h;obtain⟨vs,l1,l2,l3⟩:=wY (cs:=cs.take n) (b:=b) (off:=off) (fun j x hx=>by
    rw[List.getElem?_take]at hx;split at hx
    ·exact hc j x hx
    cases hx)
   refine⟨.agg vs.toArray,?_,vs.toArray,rfl,by simp[l1],fun j x hx=>?_⟩
   ·unfold loadVar;rw[Sem.run_bind,pc ha,ak,if_pos rfl,Sem.run_bind,dz hn,ak];have:=run_loadCells_list (P:=P) w ⟨b,off,none⟩ vs l2;rw[show vs.length=n by rw[l1,List.length_take];omega]at this;rw[Sem.run_bind,this];rfl
   simpa using l3 j x hx
  cases h
 ·rename_i hn ha;split at h
  ·rename_i x l;injection h with h
   subst h;obtain⟨v,h1,h2,h3⟩:=hc 0 x rfl;refine⟨v,?_,h3⟩;unfold loadVar;rw[Sem.run_bind,pc ha,ak,if_neg (by simp),run_load];simp only[Nat.add_zero]at h1;rw[h1]
  cases h
 cases h
theorem gS {cs:List PV} {v:Value} (h:bX X w (.ptr cs) v): ∃b off,v= .pointer (some ⟨b,off,none⟩)/\ ¬X b/\mi ρ H X w b off (cs.map AV.p):=by
 cases h with
 |ptr b off cs f hX hb hc hr=>
  refine⟨b,off,rfl,hX,fun j x hx=>?_⟩;rw[List.getElem?_map]at hx;cases hj:cs[j]? with
  |none=>rw[hj]at hx;cases hx
  |some y=>
   rw[hj]at hx;simp at hx;subst hx;exact⟨f j,hc j y hj,(hr j y hj).one,hr j y hj⟩
theorem o8 {cs:List PV} {b off k:Nat} (h:bX X w (.ptr cs) (.pointer (some ⟨b,off,none⟩))):bX X w (.ptr (cs.drop k)) (.pointer (some ⟨b,off+k,none⟩)):=by
 cases h with
 |ptr b off cs f hX hb hc hr=>
  refine .ptr b (off+k) (cs.drop k) (fun j=>f (k+j)) hX hb (fun j x hx=>?_) (fun j x hx=>?_)
  ·rw[List.getElem?_drop]at hx;rw[Nat.add_assoc];exact hc _ _ hx
  rw[List.getElem?_drop]at hx;exact hr _ _ hx
theorem vU {a r:Nat} {o:OObj} {b c i:Nat} {e:List AV} (ho:objRel ρ H X w a r o) (hρ:ρ a r=some (b,c)) (he:o.elems[i]?=some e):mi ρ H X w b (i*o.es) e:=by
 obtain⟨_,_,h3⟩:=ho;rw[hρ]at h3;obtain⟨cells,hh,_,_,_,hv⟩:=h3;intro j x hx;obtain⟨v,h1,h2,h3⟩:=hv i e j x he hx;refine⟨v,?_,h2,h3⟩;unfold World.cell?;simp only[hh];exact h1
theorem nw {z:Int} {n:Nat} (h:vN z=some n):0<=z/\z.toNat=n:=by
 unfold vN at h;split at h
 ·injection h with h;exact⟨by assumption,h⟩
 cases h
theorem Fm {ev:Operand->Option TV} {e:Operand->Value} (hev:gk ρ H X w ev e) (hob: ∀(a r:Nat) (o:OObj),(H a)[r]?=some o->objRel ρ H X w a r o)
  {o:Oper} {t:TypeId} {x:Operand} {T:TV} (ho:o.op= .load t x) (h:bQ P ev H o.op=some T): ∃v,(execOp e o).run P w= .ok (.value v) w/\T.rel ρ H X w v:=by
 unfold execOp;rw[ho]at h⊢;simp only[bQ]at h;split at h
 ·rename_i cs hx;obtain⟨b,off,hv,hX,hc⟩:=gS (ρ:=ρ) (H:=H) (hev x _ hx);obtain⟨v,h1,h2⟩:=np h hc;refine⟨v,df ?_,h2⟩;rw[hv];exact h1
 ·rename_i a r i j hx;obtain⟨o',b,c,h1,h2,h3,hv⟩:=hev x _ hx;split at h
  ·rename_i o'' ho';rw[h1]at ho';injection ho' with ho'
   subst ho';split at h
   ·rename_i el hel;obtain⟨v,g1,g2⟩:=np h (kx (vU (hob a r _ h1) h2 hel) j);refine⟨v,df ?_,g2⟩;rw[hv];exact g1
   cases h
  cases h
 cases h
theorem sB {ev:Operand->Option TV} {e:Operand->Value} (hev:gk ρ H X w ev e) (hob: ∀(a r:Nat) (o:OObj),(H a)[r]?=some o->objRel ρ H X w a r o)
  {o:Oper} {t:TypeId} {x ix:Operand} {T:TV} (ho:o.op= .indexAddr t x ix) (h:bQ P ev H o.op=some T): ∃v,(execOp e o).run P w= .ok (.value v) w/\T.rel ρ H X w v:=by
 unfold execOp;rw[ho]at h⊢;simp only[bQ]at h;split at h
 ·rename_i k n hix;have hn:=(bs (hev ix _ hix)).1;split at h
  ·cases h
  rename_i i hi;obtain⟨h0,hi⟩:=nw hi;split at h
  ·rename_i el xs hs hx;have hx:=hev x _ hx;split at h
   ·rename_i c hc;split at h
    ·rename_i hsz;injection h with h
     subst h;generalize hvx:e x=vx at*
     have hil:i<xs.length:=(List.getElem?_eq_some_iff.1 hc).1;cases hx with
     |nil a c=>simp at hil
     |sl b off es cap xs f hX hb hes hcap hm hcell hrep=>
      have hes':c.length=es:=hes c (List.mem_of_getElem? hc);refine⟨.pointer (some ⟨b,off+i*es,none⟩),df ?_,.ptr b (off+i*es) c (f i) hX hb (fun j y hy=>hcell i c j y hc hy) (fun j y hy=>hrep i c j y hc hy)⟩;unfold Instr.indexAt;rw[hn,hvx,Sem.run_bind];show Result.andThen (.ok (k,n) w) _=_;rw[ak];simp only[Sem.run_bind,run_underlying (dn hs),ak,Sem.run_pure];rw[if_pos ⟨h0,by omega⟩,Sem.run_bind,dz hsz,ak];rw[hi,Addr.add_lit,hes'];rfl
    cases h
   cases h
  ·rename_i el a r off len hs hx;obtain⟨o',h1,h2,h3⟩:=hev x _ hx;split at h
   ·rename_i o'' ho';rw[h1]at ho';injection ho' with ho'
    subst ho';split at h
    ·rename_i hcond;injection h with h
     subst h;rcases h3 with⟨_,_,hlen,_⟩|⟨b,c,cap,hρ,hv,_⟩
     ·omega
     refine⟨.pointer (some ⟨b,(off+i)*o'.es+0,none⟩),df ?_,o',b,c,h1,hρ,by omega,rfl⟩;unfold Instr.indexAt;rw[hn,hv,Sem.run_bind];show Result.andThen (.ok (k,n) w) _=_;rw[ak];simp only[Sem.run_bind,run_underlying (dn hs),ak,Sem.run_pure];rw[if_pos ⟨h0,by omega⟩,Sem.run_bind,dz hcond.1,ak];rw[hi,Addr.add_lit,Nat.add_zero,Nat.add_mul];rfl
    cases h
   cases h
  ·rename_i cs hs hx;split at h
   ·rename_i m el ha;split at h
    ·rename_i sz hsz;split at h
     ·rename_i him;injection h with h
      subst h;obtain⟨b,off,hv,hX,hc⟩:=gS (ρ:=ρ) (H:=H) (hev x _ hx);have hr:=hev x _ hx;rw[hv]at hr;refine⟨.pointer (some ⟨b,off+i*sz,none⟩),df ?_,o8 hr⟩;unfold Instr.indexAt;rw[hn,hv,Sem.run_bind];show Result.andThen (.ok (k,n) w) _=_;rw[ak];simp only[Sem.run_bind,run_underlying (gW ha),ak,Sem.run_pure,Instr.sureAddr];rw[if_pos ⟨h0,by omega⟩,Sem.run_bind,dz hsz,ak,hi,Addr.add_lit];rfl
     cases h
    cases h
   cases h
  ·rename_i a r kk j hs hx;split at h
   ·rename_i m el ha;split at h
    ·rename_i sz hsz;split at h
     ·rename_i him;injection h with h
      subst h;obtain⟨o',b,c,g1,g2,g3,hv⟩:=hev x _ hx;refine⟨.pointer (some ⟨b,kk*o'.es+(j+i*sz),none⟩),df ?_,o',b,c,g1,g2,g3,rfl⟩;unfold Instr.indexAt;rw[hn,hv,Sem.run_bind];show Result.andThen (.ok (k,n) w) _=_;rw[ak];simp only[Sem.run_bind,run_underlying (gW ha),ak,Sem.run_pure,Instr.sureAddr];rw[if_pos ⟨h0,by omega⟩,Sem.run_bind,dz hsz,ak,hi,Addr.add_lit,Nat.add_assoc];rfl
     cases h
    cases h
   cases h
  ·rename_i b off hs hx;split at h
   ·rename_i m el ha;split at h
    ·rename_i sz hsz;split at h
     ·rename_i him;injection h with h
      subst h;have hv:=(bs (hev x _ hx)).1;refine⟨.pointer (some ⟨b,off+i*sz,none⟩),df ?_,b7 rfl⟩;unfold Instr.indexAt;rw[hn,hv,Sem.run_bind];show Result.andThen (.ok (k,n) w) _=_;rw[ak];simp only[Sem.run_bind,run_underlying (gW ha),ak,Sem.run_pure,Instr.sureAddr];rw[if_pos ⟨h0,by omega⟩,Sem.run_bind,dz hsz,ak,hi,Addr.add_lit];rfl
     cases h
    cases h
   cases h
  cases h
 cases h
theorem sy {ev:Operand->Option TV} {e:Operand->Value} (hev:gk ρ H X w ev e)
  {o:Oper} {t:TypeId} {x:Operand} {f:Nat} {T:TV} (ho:o.op= .fieldAddr t x f) (h:bQ P ev H o.op=some T): ∃v,(execOp e o).run P w= .ok (.value v) w/\T.rel ρ H X w v:=by
 unfold execOp;rw[ho]at h⊢;simp only[bQ]at h;split at h
 ·rename_i off ft cs hf hx;obtain⟨b,o0,hv,hX,hc⟩:=gS (ρ:=ρ) (H:=H) (hev x _ hx);have hx:=hev x _ hx;split at h
  ·rename_i n hsz;injection h with h
   subst h;obtain⟨fs,d,h1,h2,h3,h4⟩:=lJ hf;rw[hv]at hx;refine⟨_,df ?_,o8 hx⟩;unfold Instr.fieldAt;rw[Sem.run_bind,run_underlying h1,ak];simp only[h2,hv,Instr.sureAddr,Sem.run_bind,Sem.run_pure,ak,fieldPlace,h4,dz hsz];rw[if_neg (by simp)];simp only[Sem.run_pure,ak,h3,Addr.add_lit]
  cases h
 ·rename_i off ft a r i j hf hx;obtain⟨o',b,c,g1,g2,g3,hv⟩:=hev x _ hx;split at h
  ·rename_i n hsz;injection h with h
   subst h;obtain⟨fs,d,h1,h2,h3,h4⟩:=lJ hf;refine⟨_,df ?_,o',b,c,g1,g2,g3,rfl⟩;unfold Instr.fieldAt;rw[Sem.run_bind,run_underlying h1,ak];simp only[h2,hv,Instr.sureAddr,Sem.run_bind,Sem.run_pure,ak,fieldPlace,h4,dz hsz];rw[if_neg (by simp)];simp only[Sem.run_pure,ak,h3,Addr.add_lit,Nat.add_assoc]
  cases h
 cases h
end
end
end Go.Proofs.YtalmoejhjceflaaGreat
