/-
  Part 3 of a proof (walks and plain facts).
-/
import Derived.Test.YtpgghglbpcabkaaGreatQ01
import Derived.Laws.AppendOwn
import Derived.Maps.AppendAt
import Derived.Deep.OwnRows
import Derived.Orders
set_option linter.all false
set_option maxRecDepth 100000
set_option maxHeartbeats 64000000
namespace Go.Proofs.YtpgghglbpcabkaaGreat
open Go.RowKit
section
def fz (f:Nat->Nat->Int) (i j:Nat) (c:Int):Nat->Nat->Int:=fun a b=>f a b+(if a=i then c*f j b else 0)+(if b=i then c*f a j else 0)+(if a=i then(if b=i then c*c*f j j else 0)else 0)
def mW (m a:Nat):Nat:=if a=m then m+1 else if a=m+1 then m else a
def jj (f:Nat->Nat->Int) (m:Nat):Nat->Nat->Int:=fun a b=>f (mW m a) (mW m b)
theorem FG {m a:Nat} (h:a<m):mW m a=a:=by unfold mW;rw[if_neg (by omega),if_neg (by omega)]
theorem wA {m a:Nat} (h:m+1<a):mW m a=a:=by unfold mW;rw[if_neg (by omega),if_neg (by omega)]
theorem yj (m:Nat):mW m m=m+1:=by simp[mW]
theorem wB (m:Nat):mW m (m+1)=m:=by simp[mW]
theorem oe {m a n:Nat} (hm:m+1<n) (h:a<n):mW m a<n:=by unfold mW;split<;>(try split)<;>omega
theorem AQ {f:Nat->Nat->Int} {k:Nat} (h: ∀t,t<k->dk f (t+1)≠0):dk f k≠0:=by
 cases k with
 |zero=>rw[fB];omega
 |succ k=>exact h k (by omega)
theorem rD {g:Nat->Nat->Int} {i j a b:Nat} {c:Int} (ha:a≠i) (hb:b≠i):fz g i j c a b=g a b:=by
 unfold fz;rw[if_neg ha,if_neg hb,if_neg ha];omega
theorem DQ {f:Nat->Nat->Int} {i j:Nat} {c:Int} (hji:j<i): ∀k,k<=j+1->(∀t,t<k->dk f (t+1)≠0)->(∀k',k'<=k->dk (fz f i j c) k'=dk f k')/\ ∀a b,bk (fz f i j c) k a b=fz (bk f k) i j c a b
 |0,_,_=>⟨fun k' h=>by have:k'=0:=(by omega);subst this;rfl,fun a b=>by rw[fA];unfold fz;simp only[fA]⟩
 |k+1,hk,hd=>by
  obtain⟨h1,h2⟩:=DQ (c:=c) hji k (by omega) (fun t ht=>hd t (by omega))
  have e1:dk (fz f i j c) (k+1)=dk f (k+1):=by rw[dw,h2,rD (by omega) (by omega),dw]
  have hd': ∀t,t<k->dk (fz f i j c) (t+1)≠0:=fun t ht=>by rw[h1 (t+1) (by omega)];exact hd t (by omega)
  refine⟨fun k' h=>?_,fun a b=>?_⟩
  ·by_cases e:k'=k+1
   ·subst e;exact e1
   ·exact h1 k' (by omega)
  ·have hne:=AQ (f:=f) (k:=k) (fun t ht=>hd t (by omega))
   have s:=sylv (fz f i j c) k hd' a b
   rw[h1 k (by omega),e1,h2 a b,h2 a k,h2 k b]at s
   have s1:=sylv f k (fun t ht=>hd t (by omega)) a b
   have s2:=sylv f k (fun t ht=>hd t (by omega)) j b
   have s3:=sylv f k (fun t ht=>hd t (by omega)) a j
   have s4:=sylv f k (fun t ht=>hd t (by omega)) j j
   refine Int.eq_of_mul_eq_mul_left hne ?_
   rw[s]
   have hki: ¬k=i:=by omega
   unfold fz
   by_cases ha:a=i
   ·by_cases hb:b=i
    ·simp only[ha,hb,hki,if_true,if_false];subst ha;subst hb;grind
    ·simp only[ha,hb,hki,if_true,if_false];subst ha;grind
   ·by_cases hb:b=i
    ·simp only[ha,hb,hki,if_true,if_false];subst hb;grind
    ·simp only[ha,hb,hki,if_false];grind
theorem AB {f g:Nat->Nat->Int} {n k0:Nat} (hf: ∀t,t<n->dk f (t+1)≠0) (hg: ∀t,t<k0->dk g (t+1)≠0) (hd:dk g k0=dk f k0) (h0: ∀a b,a<n->b<n->bk g k0 a b=bk f k0 a b):
  ∀k,k0<=k->k<=n->(∀k',k0<=k'->k'<=k->dk g k'=dk f k')/\ ∀a b,a<n->b<n->bk g k a b=bk f k a b:=by
 intro k
 induction k with
 |zero=>exact fun h1 h2=>⟨fun k' g1 g2=>by have:k'=k0:=(by omega);subst this;exact hd,fun a b ha hb=>by have:k0=0:=(by omega);subst this;exact h0 a b ha hb⟩
 |succ k ih=>
  intro h1 h2
  by_cases e:k0=k+1
  ·subst e
   exact⟨fun k' g1 g2=>by have:k'=k+1:=(by omega);subst this;exact hd,h0⟩
  ·obtain⟨p1,p2⟩:=ih (by omega) (by omega)
   have e1:dk g (k+1)=dk f (k+1):=by rw[dw,p2 k k (by omega) (by omega),dw]
   have hg': ∀t,t<k->dk g (t+1)≠0:=fun t ht=>by
    by_cases h:t<k0
    ·exact hg t h
    ·rw[p1 (t+1) (by omega) (by omega)];exact hf t (by omega)
   refine⟨fun k' g1 g2=>?_,fun a b ha hb=>?_⟩
   ·by_cases e:k'=k+1
    ·subst e;exact e1
    ·exact p1 k' g1 (by omega)
   ·have hne:=AQ (f:=f) (k:=k) (fun t ht=>hf t (by omega))
    have s:=sylv g k hg' a b
    have s1:=sylv f k (fun t ht=>hf t (by omega)) a b
    rw[p1 k (by omega) (by omega),e1,p2 a b ha hb,p2 a k ha (by omega),p2 k b (by omega) hb,<- s1]at s
    exact Int.eq_of_mul_eq_mul_left hne s
section
variable {f:Nat->Nat->Int} {n:Nat}
theorem DR (hs:SymF f n) (hp: ∀t,t<n->dk f (t+1)≠0) {k a t:Nat} (hk:k<=n) (ht:t<k) (ha:a<n):bk f k a t=0:=by
 rw[nz hs k hk (fun t ht=>hp t (by omega)) a t ha (by omega),kM f ht]
theorem jp (hs:SymF f n) (hp: ∀t,t<n->dk f (t+1)≠0) {i j:Nat} (c:Int) (hji:j<i) (hi:i<n):
  (∀k,k<=n->dk (fz f i j c) k=dk f k)/\(∀k a b,k<=j->bk (fz f i j c) k a b=fz (bk f k) i j c a b)/\ ∀k a b,j<k->k<=n->a<n->b<n->bk (fz f i j c) k a b=bk f k a b:=by
 have hlo:=DQ (f:=f) (c:=c) hji
 obtain⟨h1,h2⟩:=hlo (j+1) (Nat.le_refl _) (fun t ht=>hp t (by omega))
 have h0: ∀a b,a<n->b<n->bk (fz f i j c) (j+1) a b=bk f (j+1) a b:=fun a b ha hb=>by
  rw[h2]
  unfold fz
  rw[kM f (show j<j+1 by omega) b,kM f (show j<j+1 by omega) j,DR hs hp (by omega) (show j<j+1 by omega) ha]
  simp
 have hsame:=AB (f:=f) (g:=fz f i j c) (n:=n) (k0:=j+1) hp (fun t ht=>by rw[h1 (t+1) (by omega)];exact hp t (by omega)) (h1 (j+1) (by omega)) h0
 refine⟨fun k hk=>?_,fun k a b hk=>(hlo k (by omega) (fun t ht=>hp t (by omega))).2 a b,fun k a b hjk hk ha hb=>(hsame k (by omega) hk).2 a b ha hb⟩
 by_cases h:k<=j+1
 ·exact h1 k h
 ·exact(hsame k (by omega) hk).1 k (by omega) (by omega)
theorem vq {m:Nat}: ∀k,k<=m->(∀t,t<k->dk f (t+1)≠0)->(∀k',k'<=k->dk (jj f m) k'=dk f k')/\ ∀a b,bk (jj f m) k a b=bk f k (mW m a) (mW m b)
 |0,_,_=>⟨fun k' h=>by have:k'=0:=(by omega);subst this;rfl,fun a b=>by rw[fA,fA];rfl⟩
 |k+1,hk,hd=>by
  obtain⟨h1,h2⟩:=vq (m:=m) k (by omega) (fun t ht=>hd t (by omega))
  have e1:dk (jj f m) (k+1)=dk f (k+1):=by rw[dw,h2,FG (by omega),dw]
  have hd': ∀t,t<k->dk (jj f m) (t+1)≠0:=fun t ht=>by rw[h1 (t+1) (by omega)];exact hd t (by omega)
  refine⟨fun k' h=>?_,fun a b=>?_⟩
  ·by_cases e:k'=k+1
   ·subst e;exact e1
   ·exact h1 k' (by omega)
  ·have hne:=AQ (f:=f) (k:=k) (fun t ht=>hd t (by omega))
   have s:=sylv (jj f m) k hd' a b
   rw[h1 k (by omega),e1,h2 a b,h2 a k,h2 k b,FG (show k<m by omega)]at s
   have s1:=sylv f k (fun t ht=>hd t (by omega)) (mW m a) (mW m b)
   refine Int.eq_of_mul_eq_mul_left hne ?_
   rw[s,s1]
theorem KB (xmm x11 x1m xm1 xab xam xmb xa1 x1b:Int):(xmm*x11-x1m*xm1)*(xmm*xab-xam*xmb)-(xmm*xa1-xam*xm1)*(xmm*x1b-x1m*xmb)=xmm*(xmm*x11*xab-x11*xam*xmb-x1m*xm1*xab+xam*xm1*x1b+xa1*x1m*xmb-xmm*xa1*x1b):=by grind
theorem KC (xmm x11 x1m xm1 xab xam xmb xa1 x1b:Int):(x11*xmm-xm1*x1m)*(x11*xab-xa1*x1b)-(x11*xam-xa1*x1m)*(x11*xmb-xm1*x1b)=x11*(xmm*x11*xab-x11*xam*xmb-x1m*xm1*xab+xam*xm1*x1b+xa1*x1m*xmb-xmm*xa1*x1b):=by grind
theorem tu (hs:SymF f n) (hp: ∀t,t<n->0<dk f (t+1)) {m:Nat} (hm:m+1<n):
  dk f (m+1)*dk (jj f m) (m+1)=dk f m*dk f (m+2)+bk f m (m+1) m*bk f m (m+1) m/\0<dk (jj f m) (m+1):=by
 have hne: ∀t,t<n->dk f (t+1)≠0:=fun t ht=>by have:=hp t ht;omega
 obtain⟨h1,h2⟩:=vq (f:=f) (m:=m) m (Nat.le_refl _) (fun t ht=>hne t (by omega))
 have e:dk (jj f m) (m+1)=bk f m (m+1) (m+1):=by rw[dw,h2,yj]
 have s:=sylv f m (fun t ht=>hne t (by omega)) (m+1) (m+1)
 have hsy:=nz hs m (by omega) (fun t ht=>hne t (by omega)) m (m+1) (by omega) (by omega)
 rw[hsy,<- dw f (m+1)]at s
 have key:dk f (m+1)*dk (jj f m) (m+1)=dk f m*dk f (m+2)+bk f m (m+1) m*bk f m (m+1) m:=by rw[e,s];omega
 refine⟨key,?_⟩
 have p1:=hp m (by omega)
 have p2:=hp (m+1) hm
 have p0:0<dk f m:=by
  cases m with
  |zero=>rw[fB];omega
  |succ m=>exact hp m (by omega)
 have q1:0<dk f m*dk f (m+2):=Int.mul_pos p0 p2
 have q2:0<=bk f m (m+1) m*bk f m (m+1) m:=by
  rcases Int.le_total 0 (bk f m (m+1) m)with h|h
  ·exact Int.mul_nonneg h h
  ·exact Int.mul_nonneg_of_nonpos_of_nonpos h h
 rcases Int.lt_or_le 0 (dk (jj f m) (m+1))with h|h
 ·exact h
 ·exfalso
  have:=Int.mul_nonpos_of_nonneg_of_nonpos (Int.le_of_lt p1) h
  omega
theorem mo (hs:SymF f n) (hp: ∀t,t<n->0<dk f (t+1)) {m:Nat} (hm:m+1<n):
  (∀k,k<=n->k≠m+1->dk (jj f m) k=dk f k)/\(∀k a b,k<=m->bk (jj f m) k a b=bk f k (mW m a) (mW m b))/\ ∀k a b,m+1<k->k<=n->a<n->b<n->bk (jj f m) k a b=bk f k a b:=by
 have hne: ∀t,t<n->dk f (t+1)≠0:=fun t ht=>by have:=hp t ht;omega
 have hlo:=vq (f:=f) (m:=m)
 obtain⟨h1,h2⟩:=hlo m (Nat.le_refl _) (fun t ht=>hne t (by omega))
 have hsm:=(tu hs hp hm).2
 have hgm: ∀t,t<m+1->dk (jj f m) (t+1)≠0:=fun t ht=>by
  by_cases e:t=m
  ·subst e;omega
  ·rw[h1 (t+1) (by omega)];exact hne t (by omega)
 have hPne:=AQ (f:=f) (k:=m) (fun t ht=>hne t (by omega))
 have hd1:=hne m (by omega)
 have hsg:SymF (jj f m) n:=fun a ha b hb=>hs _ (oe hm ha) _ (oe hm hb)
 -- stage m + 2 for a, b behind m + 1
 have hz: ∀a b,m+1<a->m+1<b->bk (jj f m) (m+2) a b=bk f (m+2) a b:=fun a b ha hb=>by
  have F: ∀x y,dk f m*bk f (m+1) x y=dk f (m+1)*bk f m x y-bk f m x m*bk f m m y:=fun x y=>sylv f m (fun t ht=>hne t (by omega)) x y
  have G: ∀x y,dk f m*bk (jj f m) (m+1) x y=dk (jj f m) (m+1)*bk f m (mW m x) (mW m y)-bk f m (mW m x) (m+1)*bk f m (m+1) (mW m y):=fun x y=>by
   have:=sylv (jj f m) m (fun t ht=>hgm t (by omega)) x y
   rw[h1 m (by omega),h2,h2,h2,yj]at this
   exact this
  have F2:=sylv f (m+1) (fun t ht=>hne t (by omega)) a b
  have G2:=sylv (jj f m) (m+1) hgm a b
  rw[dw f (m+1)]at F2
  rw[dw (jj f m) (m+1)]at G2
  have f11:=F (m+1) (m+1)
  have fab:=F a b
  have fa1:=F a (m+1)
  have f1b:=F (m+1) b
  have g11:=G (m+1) (m+1)
  have gab:=G a b
  have ga1:=G a (m+1)
  have g1b:=G (m+1) b
  rw[wB]at g11
  rw[wA ha,wA hb]at gab
  rw[wA ha,wB]at ga1
  rw[wA hb,wB]at g1b
  have ed:dk (jj f m) (m+1)=bk f m (m+1) (m+1):=by rw[dw,h2,yj]
  have ed':dk f (m+1)=bk f m m m:=dw f m
  rw[ed]at g11 gab ga1 g1b G2
  rw[ed']at f11 fab fa1 f1b F2
  have hx1:bk f m (m+1) (m+1)≠0:=by rw[<- ed];omega
  have hxm:bk f m m m≠0:=by rw[<- ed'];exact hd1
  generalize bk (jj f m) (m+2) a b=z' at*
  generalize bk f (m+2) a b=z at*
  generalize bk (jj f m) (m+1) (m+1) (m+1)=y11' at*
  generalize bk (jj f m) (m+1) a b=yab' at*
  generalize bk (jj f m) (m+1) a (m+1)=ya1' at*
  generalize bk (jj f m) (m+1) (m+1) b=y1b' at*
  generalize bk f (m+1) (m+1) (m+1)=y11 at*
  generalize bk f (m+1) a b=yab at*
  generalize bk f (m+1) a (m+1)=ya1 at*
  generalize bk f (m+1) (m+1) b=y1b at*
  generalize bk f m (m+1) (m+1)=x11 at*
  generalize bk f m m m=xmm at*
  generalize bk f m (m+1) m=x1m at*
  generalize bk f m m (m+1)=xm1 at*
  generalize bk f m a b=xab at*
  generalize bk f m a m=xam at*
  generalize bk f m m b=xmb at*
  generalize bk f m a (m+1)=xa1 at*
  generalize bk f m (m+1) b=x1b at*
  generalize dk f m=p at*
  have k1:p*p*(xmm*z)=xmm*(xmm*x11*xab-x11*xam*xmb-x1m*xm1*xab+xam*xm1*x1b+xa1*x1m*xmb-xmm*xa1*x1b):=by
   have:p*p*(xmm*z)=(p*y11)*(p*yab)-(p*ya1)*(p*y1b):=by rw[F2];grind
   rw[this,f11,fab,fa1,f1b]
   exact KB _ _ _ _ _ _ _ _ _
  have k2:p*p*(x11*z')=x11*(xmm*x11*xab-x11*xam*xmb-x1m*xm1*xab+xam*xm1*x1b+xa1*x1m*xmb-xmm*xa1*x1b):=by
   have:p*p*(x11*z')=(p*y11')*(p*yab')-(p*ya1')*(p*y1b'):=by rw[G2];grind
   rw[this,g11,gab,ga1,g1b]
   exact KC _ _ _ _ _ _ _ _ _
  have k3:p*p*z=xmm*x11*xab-x11*xam*xmb-x1m*xm1*xab+xam*xm1*x1b+xa1*x1m*xmb-xmm*xa1*x1b:=
   Int.eq_of_mul_eq_mul_left hxm (by rw[<- k1];exact Int.mul_left_comm _ _ _)
  have k4:p*p*z'=xmm*x11*xab-x11*xam*xmb-x1m*xm1*xab+xam*xm1*x1b+xa1*x1m*xmb-xmm*xa1*x1b:=
   Int.eq_of_mul_eq_mul_left hx1 (by rw[<- k2];exact Int.mul_left_comm _ _ _)
  exact Int.eq_of_mul_eq_mul_left (Int.mul_ne_zero hPne hPne) (k4.trans k3.symm)
 have hd2:dk (jj f m) (m+2)=dk f (m+2):=by
  have s1:=sylv f m (fun t ht=>hne t (by omega)) (m+1) (m+1)
  have s2:=sylv (jj f m) m (fun t ht=>hgm t (by omega)) (m+1) (m+1)
  have ed:dk (jj f m) (m+1)=bk f m (m+1) (m+1):=by rw[dw,h2,yj]
  rw[h1 m (by omega),h2,h2,h2,yj,wB,ed,<- dw (jj f m) (m+1)]at s2
  rw[<- dw f (m+1),dw f m]at s1
  refine Int.eq_of_mul_eq_mul_left hPne ?_
  rw[s1,s2,Int.mul_comm (bk f m (m+1) (m+1)),Int.mul_comm (bk f m m (m+1))]
 have hg2: ∀t,t<m+2->dk (jj f m) (t+1)≠0:=fun t ht=>by
  by_cases e:t=m+1
  ·subst e;rw[hd2];exact hne (m+1) (by omega)
  ·exact hgm t (by omega)
 have h0: ∀a b,a<n->b<n->bk (jj f m) (m+2) a b=bk f (m+2) a b:=fun a b ha hb=>by
  by_cases h1a:a<m+2
  ·rw[kM _ h1a,kM _ h1a]
  ·by_cases h1b:b<m+2
   ·rw[DR hs hne (by omega) h1b ha,nz hsg (m+2) (by omega) hg2 a b ha hb,kM _ h1b]
   ·exact hz a b (by omega) (by omega)
 have hsame:=AB (f:=f) (g:=jj f m) (n:=n) (k0:=m+2) hne hg2 hd2 h0
 refine⟨fun k hk hkm=>?_,fun k a b hk=>(hlo k hk (fun t ht=>hne t (by omega))).2 a b,fun k a b hmk hk ha hb=>(hsame k (by omega) hk).2 a b ha hb⟩
 by_cases h:k<=m
 ·exact h1 k h
 ·exact(hsame k (by omega) hk).1 k (by omega) (by omega)
end
end
inductive PV where
 |raw (v:Value)
 |sl (xs:List (List PV))
 |ptr (cs:List PV)
inductive AV where
 |p (x:PV)
 |sl (a r off len:Nat)
 |ptr (a r i j:Nat)
 |junk
inductive TV where
 |one (x:AV)
 |agg (cs:List AV)
 |tup (ts:List (Bool×List AV))
 |fn (f:FuncId) (cs:List AV)
structure OObj where
 ty:TypeId
 es:Nat
 elems:List (List AV)
abbrev OH:=Nat->List OObj
structure AS where
 tmps:List TV
 H:OH
inductive dy (X:Nat->Prop) (w:World):PV->Value->Prop
 |raw (v:Value) (h:v.oneCell'=true):dy X w (.raw v) v
 |nil (a:Option Addr) (c:Nat):dy X w (.sl []) (.slice a 0 c)
 |sl (b off es cap:Nat) (xs:List (List PV)) (f:Nat->Nat->Value) (hX: ¬X b) (hb:b<w.heap.size) (hes: ∀e∈xs,e.length=es) (hcap:xs.length<=cap) (hm:xs.length<=9223372036854775807)
   (hc: ∀(i:Nat) e (j:Nat) x,xs[i]?=some e->e[j]?=some x->w.cell? ⟨b,off+i*es+j,none⟩=some (f i j))
   (hr: ∀(i:Nat) e (j:Nat) x,xs[i]?=some e->e[j]?=some x->dy X w x (f i j)):dy X w (.sl xs) (.slice (some ⟨b,off,none⟩) xs.length cap)
 |ptr (b off:Nat) (cs:List PV) (f:Nat->Value) (hX: ¬X b) (hb:b<w.heap.size)
   (hc: ∀(j:Nat) x,cs[j]?=some x->w.cell? ⟨b,off+j,none⟩=some (f j))
   (hr: ∀(j:Nat) x,cs[j]?=some x->dy X w x (f j)):dy X w (.ptr cs) (.pointer (some ⟨b,off,none⟩))
theorem dy.one {X:Nat->Prop} {w:World} {x:PV} {v:Value} (h:dy X w x v):v.oneCell'=true:=by
 cases h<;>first|assumption|rfl
def Iv (X:Nat->Prop) (w w':World):Prop:=w.heap.size<=w'.heap.size/\ ∀p v,¬X p.block->w.cell? p=some v->w'.cell? p=some v
theorem dy.stays {X:Nat->Prop} {w w':World} (hs:Iv X w w') {x:PV} {v:Value} (h:dy X w x v):dy X w' x v:=by
 induction h with
 |raw v h=>exact .raw v h
 |nil a c=>exact .nil a c
 |sl b off es cap xs f hX hb hes hcap hm hc hr ih=>exact .sl b off es cap xs f hX (Nat.lt_of_lt_of_le hb hs.1) hes hcap hm (fun i e j x h1 h2=>hs.2 _ _ hX (hc i e j x h1 h2)) ih
 |ptr b off cs f hX hb hc hr ih=>exact .ptr b off cs f hX (Nat.lt_of_lt_of_le hb hs.1) (fun j x h1=>hs.2 _ _ hX (hc j x h1)) ih
theorem dy.weaken {X Y:Nat->Prop} {w:World} (hs: ∀b,b<w.heap.size->Y b->X b) {x:PV} {v:Value} (h:dy X w x v):dy Y w x v:=by
 induction h with
 |raw v h=>exact .raw v h
 |nil a c=>exact .nil a c
 |sl b off es cap xs f hX hb hes hcap hm hc hr ih=>exact .sl b off es cap xs f (fun h=>hX (hs _ hb h)) hb hes hcap hm hc ih
 |ptr b off cs f hX hb hc hr ih=>exact .ptr b off cs f (fun h=>hX (hs _ hb h)) hb hc ih
abbrev gm:=Nat->Nat->Option (Nat×Nat)
def Xo (X:Nat->Prop) (ρ:gm) (H:OH):Nat->Prop:=fun b=>X b\/ ∃(a r:Nat) (o:OObj) (c:Nat),(H a)[r]?=some o/\ρ a r=some (b,c)
def AV.rel (ρ:gm) (H:OH) (X:Nat->Prop) (w:World):AV->Value->Prop
 | .p x,v=>dy X w x v
 | .sl a r off len,v=> ∃o,(H a)[r]?=some o/\off+len<=o.elems.length/\
   ((ρ a r=none/\v= .slice none 0 0/\len=0/\off=0)\/ ∃b c,ρ a r=some (b,c)/\v= .slice (some ⟨b,off*o.es,none⟩) len (c-off))
 | .ptr a r i j,v=> ∃o b c,(H a)[r]?=some o/\ρ a r=some (b,c)/\i<o.elems.length/\v= .pointer (some ⟨b,i*o.es+j,none⟩)
 | .junk,_=>True
def dv (ρ:gm) (H:OH) (X:Nat->Prop) (w:World) (cs:List AV) (v:Value):Prop:=
 ∃vs:Array Value,v= .agg vs/\vs.size=cs.length/\ ∀(j:Nat) x,cs[j]?=some x-> ∃u:Value,vs[j]?=some u/\u.oneCell'=true/\x.rel ρ H X w u
def KL (f:FuncId):Value->Value
 | .agg vs=> .func (.func f) #[] vs
 |v=>v
def TV.rel (ρ:gm) (H:OH) (X:Nat->Prop) (w:World):TV->Value->Prop
 | .one x,v=>x.rel ρ H X w v
 | .agg cs,v=>dv ρ H X w cs v
 | .tup ts,v=> ∃vs:Array Value,v= .tuple vs/\vs.size=ts.length/\ ∀(j:Nat) b cs,ts[j]?=some (b,cs)-> ∃u:Value,vs[j]?=some u/\
   ((b=true/\dv ρ H X w cs u)\/(b=false/\ ∃x,cs=[x]/\x.rel ρ H X w u))
 | .fn f cs,v=> ∃u,dv ρ H X w cs u/\v=KL f u
def objRel (ρ:gm) (H:OH) (X:Nat->Prop) (w:World) (a r:Nat) (o:OObj):Prop:=
 (∀e∈o.elems,e.length=o.es)/\0<o.es/\
 match ρ a r with
 |none=>o.elems=[]
 |some (b,c)=> ∃cells,w.heap[b]?=some (.cells cells o.ty (0,0))/\cells.size=c*o.es/\o.elems.length<=c/\c<=9223372036854775807/\
   ∀(i:Nat) e (j:Nat) x,o.elems[i]?=some e->e[j]?=some x-> ∃v:Value,cells[i*o.es+j]?=some v/\v.oneCell'=true/\x.rel ρ H X w v
structure Keep (O:Nat->Prop) (w0 w:World):Prop where
 os:w.os=w0.os
 tape:w.tape=w0.tape
 output:w.output=w0.output
 size:w0.heap.size<=w.heap.size
 block: ∀k,k<w0.heap.size-> ¬O k->w.heap[k]?=w0.heap[k]?
def fE (a:Nat):AV->Prop
 | .sl b _ _ _=>b=a
 | .ptr b _ _ _=>b=a
 |_=>True
def selfO (a:Nat) (o:OObj):Prop:= ∀e∈o.elems,∀x∈e,fE a x
structure i7 (w0:World) (O X:Nat->Prop) (H:OH) (ρ:gm) (w:World):Prop where
 keep:Keep O w0 w
 objs: ∀(a r:Nat) (o:OObj),(H a)[r]?=some o->objRel ρ H (Xo X ρ H) w a r o
 inj: ∀(a r a' r':Nat) (o o':OObj) (b c c':Nat),(H a)[r]?=some o->(H a')[r']?=some o'->ρ a r=some (b,c)->ρ a' r'=some (b,c')->a=a'/\r=r'
 old: ∀(a r:Nat) (o:OObj) (b c:Nat),(H a)[r]?=some o->ρ a r=some (b,c)->(w0.heap.size<=b\/O b)/\ ¬X b
 bar: ∀b,X b->b<w.heap.size
 self: ∀(a r:Nat) (o:OObj),(H a)[r]?=some o->selfO a o
def ik (w0:World) (O X:Nat->Prop) (s:AS) (a:Act) (w:World):Prop:=
 a.defers=[]/\a.tmps.size=s.tmps.length/\ ∃ρ,i7 w0 O X s.H ρ w/\
  ∀(t:Nat) x,s.tmps[t]?=some x-> ∃v:Value,a.tmps[t]?=some v/\x.rel ρ s.H (Xo X ρ s.H) w v
def kD (P:Program) (t:TypeId):Option Nat:=(P.info? t).map (·.size)
def DT (P:Program) (t:TypeId):Option Nat:=(P.info? t).map (·.bytes)
def iM (P:Program) (t:TypeId):Option (List Value):=((P.info? t).bind (·.zero)).map (·.cells.toList)
def mY (P:Program) (t:TypeId):Option Bool:=(P.underlying t).map fun| .struct _=>true| .array _ _=>true|_=>false
def fb (P:Program) (t:TypeId):Option TypeId:=(P.underlying t).bind fun| .slice e=>some e|_=>none
def xD (P:Program) (t:TypeId):Option IntKind:=(P.underlying t).bind fun| .int k=>some k|_=>none
def rG (P:Program) (t:TypeId):Bool:=match P.underlying t with|some .bool=>true|_=>false
def iu (P:Program) (t:TypeId) (f:Nat):Option (Nat×TypeId):=(P.underlying t).bind fun| .struct fs=>(fs[f]?).map fun d=>(d.offset,d.type)|_=>none
abbrev AV.raw (v:Value):AV:= .p (.raw v)
abbrev TV.raw (v:Value):TV:= .one (.p (.raw v))
abbrev TV.undef:TV:= .tup []
def ac:Value->TV
 | .agg cs=>if cs.toList.all (·.oneCell')then .agg (cs.toList.map AV.raw)else .one .junk
 |v=>if v.oneCell' then .raw v else .one .junk
def AS.ev (s:AS):Operand->Option TV
 | .tmp t=>s.tmps[t]?
 | .const v=>some (ac v)
 | .global g=>some (.raw (.pointer (some ⟨g,0,none⟩)))
 | .func f=>some (.raw (.func (.func f) #[] #[]))
def AS.put (s:AS) (d:Option Tmp) (t:TV):AS:=
 match d with
 |some d=>{s with tmps:=s.tmps.set d t}
 |none=>s
def aA (P:Program) (t:TypeId) (cs:List AV):Option TV:=
 match kD P t,mY P t with
 |some n,some true=>if n<=cs.length then some (.agg (cs.take n))else none
 |some _,some false=>match cs with
  |x::_=>some (.one x)
  |[]=>none
 |_,_=>none
def ah (bt:Bool):BinOp->Value->Value->Option Value
 | .add,.int k a,.int k' b=>if k=k' then some (.int k (k.wrap (a+b)))else none
 | .sub,.int k a,.int k' b=>if k=k' then some (.int k (k.wrap (a-b)))else none
 | .mul,.int k a,.int k' b=>if k=k' then some (.int k (k.wrap (a*b)))else none
 | .quo,.int k a,.int k' b=>if k=k'/\b≠0 then some (.int k (k.wrap (a.tdiv b)))else none
 | .rem,.int k a,.int k' b=>if k=k'/\b≠0 then some (.int k (a.tmod b))else none
 | .shl,.int k a,.int _ b=>if 0<=b then some (.int k (k.wrap (a*2^(min b.toNat k.bits))))else none
 | .shr,.int k a,.int _ b=>if 0<=b then some (.int k (a.fdiv (2^(min b.toNat k.bits))))else none
 | .and,.int k a,.int k' b=>if k=k' then some (.int k (k.wrap ((BitVec.ofInt k.bits a&&&BitVec.ofInt k.bits b).toNat:Int)))else none
 | .or,.int k a,.int k' b=>if k=k' then some (.int k (k.wrap ((BitVec.ofInt k.bits a|||BitVec.ofInt k.bits b).toNat:Int)))else none
 | .xor,.int k a,.int k' b=>if k=k' then some (.int k (k.wrap ((BitVec.ofInt k.bits a^^^BitVec.ofInt k.bits b).toNat:Int)))else none
 | .eql,.int k a,.int k' b=>if k=k' then some (.bool (decide (a=b)))else none
 | .neq,.int k a,.int k' b=>if k=k' then some (.bool (!decide (a=b)))else none
 | .lss,.int k a,.int k' b=>if k=k' then some (.bool (decide (a<b)))else none
 | .leq,.int k a,.int k' b=>if k=k' then some (.bool (decide (a<=b)))else none
 | .gtr,.int k a,.int k' b=>if k=k' then some (.bool (decide (b<a)))else none
 | .geq,.int k a,.int k' b=>if k=k' then some (.bool (decide (b<=a)))else none
 | .eql,.bool a,.bool b=>if bt=true then some (.bool (a==b))else none
 | .neq,.bool a,.bool b=>if bt=true then some (.bool (!(a==b)))else none
 |_,_,_=>none
def dc:UnOp->Value->Option Value
 | .neg,.int k n=>some (.int k (k.wrap (0-n)))
 | .not,.bool b=>some (.bool !b)
 |_,_=>none
def ak (P:Program) (ev:Operand->Option TV):Op->Option TV
 | .move x=>ev x
 | .assign x=>ev x
 | .pick c a b=>match ev c with
  |some (.one (.p (.raw (.bool true))))=>ev a
  |some (.one (.p (.raw (.bool false))))=>ev b
  |_=>none
 | .binOp op t x y _=>match ev x,ev y with
  |some (.one (.p (.raw a))),some (.one (.p (.raw b)))=>(ah (rG P t) op a b).map TV.raw
  |_,_=>none
 | .unOp op _ x=>match ev x with
  |some (.one (.p (.raw a)))=>(dc op a).map TV.raw
  |_=>none
 | .convert src dst x=>match ev x,P.underlying src,xD P dst with
  |some (.one (.p (.raw (.int _ n)))),some _,some k=>some (.raw (.int k (k.wrap n)))
  |_,_,_=>none
 | .extract t i=>match ev t with
  |some (.tup ts)=>match ts[i]? with
   |some (true,cs)=>some (.agg cs)
   |some (false,[x])=>some (.one x)
   |_=>none
  |_=>none
 |_=>none
def vQ:Op->Bool
 | .move _| .assign _| .pick ..| .binOp ..| .unOp ..| .convert ..| .extract ..=>true
 |_=>false
def xN (z:Int):Option Nat:=if 0<=z then some z.toNat else none
def gC (ev:Operand->Option TV):Option Operand->Nat->Option Nat
 |none,d=>some d
 |some x,_=>match ev x with
  |some (.one (.p (.raw (.int _ n))))=>xN n
  |_=>none
def cellsOf:TV->Option (List AV)
 | .one (.p x)=>some [.p x]
 | .agg cs=>some cs
 |_=>none
def oY (P:Program) (t:TypeId):Option (List (Nat×Nat)):=(P.underlying t).bind fun| .struct fs=>fs.toList.mapM (fun f=>(P.info? f.type).map fun i=>(f.offset,i.size))|_=>none
def fm (pl:List (Nat×Nat)) (ev:Operand->Option TV):List AV->List (Nat×Operand)->Option (List AV)
 |cs,[]=>some cs
 |cs,(f,x)::rest=>match pl[f]?,(ev x).bind cellsOf with
  |some (off,n),some ys=>if ys.length=n/\off+n<=cs.length then fm pl ev (cs.take off++ys++cs.drop (off+n)) rest else none
  |_,_=>none
def aD (ev:Operand->Option TV):List Operand->Option (List TV)
 |[]=>some []
 |x::l=>match ev x,aD ev l with
  |some t,some ts=>some (t::ts)
  |_,_=>none
def lT:List TV->Option (List AV)
 |[]=>some []
 | .one .junk::_=>none
 | .one x::l=>match lT l with
  |some cs=>some (x::cs)
  |none=>none
 |_::_=>none
def B6:Option TV->Option (FuncId×List TV)
 |some (.fn f cs)=>some (f,cs.map TV.one)
 |some (.one (.p (.raw (.func (.func f) first caps))))=>if first.isEmpty&&caps.isEmpty then some (f,[])else none
 |_=>none
def au (P:Program) (ev:Operand->Option TV) (H:OH):Op->Option TV
 | .load t a=>match ev a with
  |some (.one (.p (.ptr cs)))=>aA P t (cs.map AV.p)
  |some (.one (.ptr a r i j))=>match(H a)[r]? with
   |some o=>match o.elems[i]? with
    |some e=>aA P t (e.drop j)
    |none=>none
   |none=>none
  |_=>none
 | .indexAddr t x ix=>match ev ix with
  |some (.one (.p (.raw (.int _ n))))=>match xN n with
   |none=>none
   |some i=>match fb P t,ev x with
    |some e,some (.one (.p (.sl xs)))=>match xs[i]? with
     |some c=>if kD P e=some c.length then some (.one (.p (.ptr c)))else none
     |none=>none
    |some e,some (.one (.sl a r off len))=>match(H a)[r]? with
     |some o=>if kD P e=some o.es/\i<len then some (.one (.ptr a r (off+i) 0))else none
     |none=>none
    |_,_=>none
  |_=>none
 | .fieldAddr t x f=>match iu P t f,ev x with
  |some (off,ft),some (.one (.p (.ptr cs)))=>match kD P ft with
   |some (_+1)=>some (.one (.p (.ptr (cs.drop off))))
   |_=>none
  |some (off,ft),some (.one (.ptr a r i j))=>match kD P ft with
   |some (_+1)=>some (.one (.ptr a r i (j+off)))
   |_=>none
  |_,_=>none
 | .field t x f=>match iu P t f,ev x with
  |some (off,ft),some (.agg cs)=>aA P ft (cs.drop off)
  |_,_=>none
 | .slice t x lo hi none=>match fb P t,ev x with
  |some e,some (.one (.p (.sl xs)))=>match gC ev lo 0,gC ev hi xs.length,kD P e with
   |some l,some h,some n=>if l<=h/\h<=xs.length/\ ∀c∈xs,c.length=n then some (.one (.p (.sl ((xs.take h).drop l))))else none
   |_,_,_=>none
  |some e,some (.one (.sl a r off len))=>match gC ev lo 0,gC ev hi len,(H a)[r]? with
   |some l,some h,some o=>if kD P e=some o.es/\l<h/\h<=len then some (.one (.sl a r (off+l) (h-l)))else if kD P e=some o.es/\l=h/\h<=len then some (.one (.p (.sl [])))else none
   |_,_,_=>none
  |_,_=>none
 | .build t parts=>match iM P t,oY P t with
  |some z,some pl=>if z.all (·.oneCell')then(fm pl ev (z.map AV.raw) parts.toList).map TV.agg else none
  |_,_=>none
 | .nilCheck x=>match ev x with
  |some (.one (.p (.ptr cs)))=>some (.one (.p (.ptr cs)))
  |some (.one (.ptr a r i j))=>some (.one (.ptr a r i j))
  |_=>none
 | .makeFunc (.func f) first captured=>if first.isEmpty then((aD ev captured.toList).bind lT).map (TV.fn f)else none
 | .call {callee:= .builtin .len,args,argTypes}=>match args.toList,argTypes.toList with
  |[x],[t]=>match fb P t,ev x with
   |some _,some (.one (.p (.sl xs)))=>some (.raw (.int .i64 xs.length))
   |some _,some (.one (.sl _ _ _ len))=>some (.raw (.int .i64 len))
   |some _,some (.one (.p (.raw (.slice _ n _))))=>some (.raw (.int .i64 n))
   |_,_=>none
  |_,_=>none
 |_=>none
def GY:Op->Bool
 | .load ..| .indexAddr ..| .fieldAddr ..| .field ..| .slice ..| .build ..| .nilCheck ..| .makeFunc ..| .call {callee:= .builtin .len,..}=>true
 |_=>false
def isPure:AV->Bool
 | .p _=>true
 |_=>false
def ka:AV->PV
 | .p x=>x
 |_=> .raw undef
def aE (d:Nat):AV->AV
 | .sl _ r off len=> .sl d r off len
 | .ptr _ r i j=> .ptr d r i j
 |x=>x
def aG (d:Nat):TV->TV
 | .one x=> .one (aE d x)
 | .agg cs=> .agg (cs.map (aE d))
 | .tup ts=> .tup (ts.map fun t=>(t.1,t.2.map (aE d)))
 | .fn f cs=> .fn f (cs.map (aE d))
def dm (d:Nat) (o:OObj):OObj:={o with elems:=o.elems.map (List.map (aE d))}
def famH (d:Nat) (F:List OObj):OH:=fun a=>if a=d then F else[]
def aJ (H:OH) (d:Nat) (F:List OObj):OH:=fun a=>if a=d then F else H a
def aT (k:Nat->Nat->Bool):AV->AV
 | .sl a r off len=>if k a r then .junk else .sl a r off len
 | .ptr a r i j=>if k a r then .junk else .ptr a r i j
 |x=>x
def aS (k:Nat->Nat->Bool):TV->TV
 | .one x=> .one (aT k x)
 | .agg cs=> .agg (cs.map (aT k))
 | .tup ts=> .tup (ts.map fun t=>(t.1,t.2.map (aT k)))
 | .fn f cs=> .fn f (cs.map (aT k))
def d7 (k:Nat->Nat->Bool) (o:OObj):OObj:={o with elems:=o.elems.map (List.map (aT k))}
structure CallRes where
 fam:List OObj
 r:TV
def callable (P:Program) (f:FuncId):Bool:=match P.funcs[f]? with
 | some fn => fn.body.isSome && !(fn.name == "runtime.NumGoroutine")
 |none=>false
def CallC (P:Program) (f:FuncId) (args:List TV) (res:CallRes):Prop:=
 callable P f=true/\ ∀(X:Nat->Prop) (w:World) (vs:Array Value),(∀b,X b->b<w.heap.size)->vs.size=args.length->
  (∀(j:Nat) t,args[j]?=some t-> ∃v:Value,vs[j]?=some v/\t.rel (fun _ _=>none) (fun _=>[]) X w v)->
  Calls P f vs w fun e w'=> ∃v,e= .returned v/\ ∃ρ:gm,
   i7 w (fun _=>False) X (famH 0 res.fam) ρ w'/\res.r.rel ρ (famH 0 res.fam) (Xo X ρ (famH 0 res.fam)) w' v
def aH:AV->Bool
 | .p (.raw _)=>true
 |_=>false
def aF:TV->Bool
 | .one x=>aH x
 | .agg cs=>cs.all aH
 | .tup ts=>ts.all fun t=>t.2.all aH
 | .fn _ cs=>cs.all aH
def CallRes.plain (res:CallRes):Bool:=res.fam.isEmpty&&aF res.r
def am:AV->Bool
 | .sl ..=>false
 | .ptr ..=>false
 |_=>true
def noRefTV:TV->Bool
 | .one x=>am x
 | .agg cs=>cs.all am
 | .tup ts=>ts.all fun t=>t.2.all am
 | .fn _ cs=>cs.all am
structure eQ (P:Program) where
 i:Nat
 f:FuncId
 args:List TV
 res:CallRes
structure ar (P:Program) where
 i:Nat
 f:FuncId
 args:List TV
 res:CallRes
 h:CallC P f args res
def ar.a {P:Program} (it:ar P):eQ P:=⟨it.i,it.f,it.args,it.res⟩
def gk (P:Program) (items:List (eQ P)):Prop:= ∀it∈items,CallC P it.f it.args it.res
theorem ar.ok {P:Program} (items:List (ar P)):gk P (items.map ar.a):=fun it hit=>by
 obtain⟨x,_,rfl⟩:=List.mem_map.1 hit
 exact x.h
def aX (H:OH):TV->TV
 | .one (.sl a r off len)=>match(H a)[r]? with
  |some o=> .one (.p (.sl ((((o.elems.take (off+len)).drop off)).map (List.map ka))))
  |none=> .one .junk
 | .one (.p (.raw (.slice none 0 0)))=> .one (.p (.sl []))
 |t=>t
def ap (own:Bool) (H:OH):TV->Bool
 | .one (.sl a r _ _)=>own&&match(H a)[r]? with
  |some o=>o.elems.all fun e=>e.all isPure
  |none=>false
 | .one (.p _)=>true
 | .agg cs=>cs.all isPure
 | .fn _ cs=>cs.all isPure
 |_=>false
def newsOf (H:OH):TV->Option (List (List AV))
 | .one (.p (.sl xs))=>some (xs.map (List.map AV.p))
 | .one (.p (.raw (.slice none 0 0)))=>some []
 | .one (.sl a r off len)=>match(H a)[r]? with
  |some o=>if o.elems.all fun e=>e.all isPure then some ((o.elems.take (off+len)).drop off)else none
  |none=>none
 |_=>none
def fW (ev:Operand->Option TV) (n:Nat):Nat->List (Nat×Operand)->Option (List (List AV))
 |_,[]=>some []
 |i,(k,x)::rest=>match(ev x).bind cellsOf,fW ev n (i+1) rest with
  |some cs,some l=>if k=i/\cs.length=n/\cs.all isPure then some (cs::l)else none
  |_,_=>none
open Classical in
noncomputable def aC (P:Program) (items:List (eQ P)) (ow:List Nat) (i d:Nat) (ev:Operand->Option TV) (H:OH):Op->Option (TV×List OObj)
 | .box e x=>match(ev x).bind cellsOf with
  |some cs=>if cs.all isPure/\0<cs.length then some (.one (.ptr d 0 0 0),[⟨e,cs.length,[cs]⟩])else none
  |none=>none
 | .alloc e=>match iM P e with
  |some z=>if z.all (·.oneCell')/\0<z.length then some (.one (.ptr d 0 0 0),[⟨e,z.length,[z.map AV.raw]⟩])else none
  |none=>none
 | .makeSlice t l c=>match ev l,ev c,fb P t with
  |some (.one (.p (.raw (.int _ n)))),some (.one (.p (.raw (.int _ m)))),some e=>match iM P e,kD P e,DT P e with
   |some z,some sz,some by_=>if 0<=n/\n<=m/\m<=9223372036854775807/\(by_:Int)*m<=281474976710656/\z.length=sz/\0<sz/\z.all (·.oneCell')then
     some (.one (.sl d 0 0 n.toNat),[⟨e,sz,List.replicate n.toNat (z.map AV.raw)⟩])else none
   |_,_,_=>none
  |_,_,_=>none
 | .buildSlice t n parts=>match fb P t with
  |some e=>match iM P e,kD P e with
   |some z,some sz=>match fW ev sz 0 parts.toList with
    |some l=>if l.length=n/\n*sz<=16777216/\z.length=sz/\0<sz then
      if ow.contains d then some (.one (.sl d 0 0 n),[⟨e,sz,l⟩])else some (.one (.p (.sl (l.map (List.map ka)))),[])else none
    |none=>none
   |_,_=>none
  |none=>none
 | .call c=>match c.callee with
  | .value (.func f)=>match items.find? (·.i==i),aD ev c.args.toList with
   |some it,some ts=>if it.f=f/\ts.map (aX H)=it.args/\ts.all (ap it.res.plain H)/\(!it.res.fam.isEmpty||noRefTV it.res.r)then some (aG d it.res.r,it.res.fam.map (dm d))else none
   |_,_=>none
  | .value (.tmp k)=>match B6 (ev (.tmp k)),items.find? (·.i==i),aD ev c.args.toList with
   |some (f,extra),some it,some ts=>if it.f=f/\(ts++extra).map (aX H)=it.args/\(ts++extra).all (ap it.res.plain H)/\(!it.res.fam.isEmpty||noRefTV it.res.r)then some (aG d it.res.r,it.res.fam.map (dm d))else none
   |_,_,_=>none
  | .builtin .append=>match c.args.toList,c.argTypes.toList with
   |[s,x],[t,t']=>match ev s,(ev x).bind (newsOf H),fb P t with
    |some (.one (.p (.raw (.slice none 0 0)))),some news,some e=>match iM P e,kD P e,DT P e with
     |some z,some sz,some by_=>if t=t'/\news.length*by_<=140737488355328/\news.length<=9223372036854775807/\z.length=sz/\0<sz/\(∀e∈news,e.length=sz)then
       some (.one (.sl d 0 0 news.length),[⟨e,sz,news⟩])else none
     |_,_,_=>none
    |_,_,_=>none
   |_,_=>none
  |_=>none
 |_=>none
def putCells (e:List AV) (j:Nat) (cs:List AV):List AV:=e.take j++cs++e.drop (j+cs.length)
structure yH where
 t:TV
 H:OH
 k:Nat->Nat->Bool
def bJ (P:Program) (ev:Operand->Option TV) (H:OH):Op->Option yH
 | .store t a x=>match ev a,kD P t with
  |some (.one (.ptr a r i j)),some n=>match(H a)[r]? with
   |some o=>match o.elems[i]? with
    |some e=>match ev x with
     |some (.one (.sl a' r' off len))=>
      if a'=a then
       if n=1/\j<e.length then some ⟨.undef,aJ H a ((H a).set r {o with elems:=o.elems.set i (putCells e j [.sl a' r' off len])}),fun _ _=>false⟩else none
      else match H a' with
       |[ob]=>if r'=0/\off=0/\len=ob.elems.length/\n=1/\j<e.length/\ob.elems.all (fun e=>e.all isPure)then
         some ⟨.undef,aJ (aJ H a ((H a).set r {o with elems:=o.elems.set i (putCells e j [.sl a (H a).length 0 len])}++[ob])) a' [],fun x _=>x==a'⟩else none
       |_=>none
     |some v=>match cellsOf v with
      |some cs=>if cs.length=n/\j+n<=e.length/\cs.all isPure then
        some ⟨.undef,aJ H a ((H a).set r {o with elems:=o.elems.set i (putCells e j cs)}),fun _ _=>false⟩else none
      |none=>none
     |none=>none
    |none=>none
   |none=>none
  |_,_=>none
 | .call c=>match c.callee,c.args.toList,c.argTypes.toList with
  | .builtin .append,[s,x],[t,t']=>match ev s,(ev x).bind (newsOf H),fb P t with
   |some (.one (.sl a r off len)),some news,some e=>match(H a)[r]?,iM P e,kD P e,DT P e with
    |some o,some z,some sz,some by_=>if t=t'/\o.ty=e/\o.es=sz/\o.elems.all (fun e=>e.all isPure)/\off=0/\len=o.elems.length/\(len+news.length)*by_<=140737488355328/\len+news.length<=9223372036854775807/\z.length=sz/\(∀e∈news,e.length=sz)then
      some ⟨.one (.sl a r 0 (len+news.length)),aJ H a (((H a).map (d7 fun x y=>x==a&&y==r)).set r {o with elems:=o.elems++news}),fun x y=>x==a&&y==r⟩else none
    |_,_,_,_=>none
   |_,_,_=>none
  |_,_,_=>none
 |_=>none
noncomputable def fw (P:Program) (items:List (eQ P)) (ow:List Nat) (i:Nat) (o:Oper) (s:AS):Option AS:=
 if vQ o.op then(ak P s.ev o.op).map (s.put o.dst)
 else if GY o.op then(au P s.ev s.H o.op).map (s.put o.dst)
 else match bJ P s.ev s.H o.op with
  |some q=>some (AS.put ⟨s.tmps.map (aS q.k),q.H⟩ o.dst q.t)
  |none=>match o.dst with
   |none=>none
   |some d=>match aC P items ow i d s.ev s.H o.op with
    |some (t,[])=>some (s.put (some d) t)
    |some (t,F)=>match s.H d with
     |[]=>some (AS.put ⟨s.tmps,aJ s.H d F⟩ (some d) t)
     |_=>none
    |none=>none
noncomputable def du (P:Program) (items:List (eQ P)) (ow:List Nat) (ops:Array Oper) (i:Nat) (o:Oper) (s:AS):Option AS:=
 match o.guard with
 |none=>fw P items ow i o s
 |some (g,want)=>match(ops[g]?).bind (·.dst)with
  |none=>none
  |some d=>match s.tmps[d]? with
   |some (.one (.p (.raw (.bool b))))=>if b=want then fw P items ow i o s else some (s.put o.dst .undef)
   |some (.tup [])=>some (s.put o.dst .undef)
   |_=>none
noncomputable def jy (P:Program) (items:List (eQ P)) (ow:List Nat) (ops:Array Oper):List (Oper×Nat)->AS->Option AS
 |[],s=>some s
 |(o,i)::rest,s=>match du P items ow ops i o s with
  |some s'=>jy P items ow ops rest s'
  |none=>none
section
section
variable {P:Program} {ρ:gm} {H:OH} {X:Nat->Prop} {w:World}
def iT (ρ:gm) (H:OH) (X:Nat->Prop) (w:World) (ev:Operand->Option TV) (e:Operand->Value):Prop:= ∀x t,ev x=some t->TV.rel ρ H X w t (e x)
theorem dM {a v:Value} (h:TV.rel ρ H X w (.raw a) v):v=a/\a.oneCell'=true:=by
 cases h with
 |raw v h=>exact⟨rfl,h⟩
theorem gf {a:Value} (h:a.oneCell'=true):TV.rel ρ H X w (.raw a) a:=dy.raw a h
theorem xQ (v:Value):TV.rel ρ H X w (ac v) v:=by
 unfold ac
 split
 ·rename_i cs
  split
  ·rename_i h
   simp only[List.all_eq_true]at h
   refine⟨cs,rfl,by simp,fun j x hx=>?_⟩
   rw[List.getElem?_map]at hx
   cases hj:cs.toList[j]? with
   |none=>rw[hj]at hx;cases hx
   |some u=>
    rw[hj]at hx
    simp at hx
    subst hx
    have h1:u.oneCell'=true:=h u (List.mem_of_getElem? hj)
    exact⟨u,by simpa using hj,h1,dy.raw u h1⟩
  ·exact trivial
 ·split
  ·exact dy.raw _ (by assumption)
  ·exact trivial
theorem xw {op:BinOp} {a b v:Value} {t:TypeId} (h:ah (rG P t) op a b=some v) (x y:Operand):
  (do eqGuard op t x y a b;binOp op t a b:Sem Value).run P w= .ok v w/\v.oneCell'=true:=by
 unfold ah at h
 split at h
 case h_1|h_2|h_3|h_8|h_9|h_10|h_11|h_12|h_13|h_14|h_15|h_16=>
  split at h
  ·rename_i hk
   subst hk
   injection h with h
   subst h
   refine⟨?_,rfl⟩
   show(if _≠_ then _ else _:Sem Value).run P w=_
   rw[if_neg (fun h=>h rfl)]
   rfl
  ·cases h
 case h_4|h_5=>
  split at h
  ·rename_i hk
   obtain⟨hk,hb⟩:=hk
   subst hk
   injection h with h
   subst h
   refine⟨?_,rfl⟩
   show(if _≠_ then _ else(if _=_ then _ else _):Sem Value).run P w=_
   rw[if_neg (fun h=>h rfl),if_neg hb]
   rfl
  ·cases h
 case h_6|h_7=>
  split at h
  ·rename_i hb
   injection h with h
   subst h
   refine⟨?_,rfl⟩
   show(if _<_ then _ else _:Sem Value).run P w=_
   rw[if_neg (by omega)]
   rfl
  ·cases h
 case h_17|h_18=>
  split at h
  ·rename_i hb
   injection h with h
   subst h
   have ht:P.underlying t=some .bool:=by
    unfold rG at hb
    split at hb
    ·assumption
    ·cases hb
   refine⟨?_,rfl⟩
   first
    |exact run_eql_bool w t _ _ ht
    |exact run_neq_bool w t _ _ ht
  ·cases h
 case h_19=>cases h
theorem zq {op:UnOp} {a v:Value} (h:dc op a=some v):(Op.unary op a).run P w= .ok v w/\v.oneCell'=true:=by
 unfold dc at h
 split at h
 ·injection h with h;subst h;exact⟨rfl,rfl⟩
 ·injection h with h;subst h;exact⟨rfl,rfl⟩
 ·cases h
theorem fX {s:Sem Value} {v:Value} {w':World} (h:s.run P w= .ok v w'):(do pure (Next.value (<- s)):Sem Next).run P w= .ok (.value v) w':=by
 rw[Sem.run_bind,h];rfl
theorem Ki {s:Sem Unit} {w':World} (h:s.run P w= .ok () w'):(do s;pure Next.skip:Sem Next).run P w= .ok .skip w':=by
 rw[Sem.run_bind,h];rfl
theorem zj {ev:Operand->Option TV} {e:Operand->Value} (hev:iT ρ H X w ev e) {o:Oper} {t:TV} (h:ak P ev o.op=some t):
  ∃v,(execOp e o).run P w= .ok (.value v) w/\t.rel ρ H X w v:=by
 unfold execOp
 cases ho:o.op<;>rw[ho]at h<;>simp only[ak]at h<;>try cases h
 case move x=>exact⟨_,rfl,hev x t h⟩
 case assign x=>exact⟨_,rfl,hev x t h⟩
 case pick c a b=>
  split at h
  ·rename_i hc
   have:=(dM (hev c _ hc)).1
   refine⟨e a,?_,hev a t h⟩
   simp only[this];rfl
  ·rename_i hc
   have:=(dM (hev c _ hc)).1
   refine⟨e b,?_,hev b t h⟩
   simp only[this];rfl
  ·cases h
 case binOp op ty x y yt=>
  split at h
  ·rename_i a b ha hb
   have h1:=(dM (hev x _ ha)).1
   have h2:=(dM (hev y _ hb)).1
   cases hv:ah (rG P ty) op a b with
   |none=>rw[hv]at h;cases h
   |some v=>
    rw[hv]at h
    simp at h
    subst h
    obtain⟨h3,h4⟩:=xw (P:=P) (w:=w) hv x y
    refine⟨v,?_,gf h4⟩
    simp only[h1,h2]
    exact fX h3
  ·cases h
 case unOp op ty x=>
  split at h
  ·rename_i a ha
   have h1:=(dM (hev x _ ha)).1
   cases hv:dc op a with
   |none=>rw[hv]at h;cases h
   |some v=>
    rw[hv]at h
    simp at h
    subst h
    obtain⟨h3,h4⟩:=zq (P:=P) (w:=w) hv
    refine⟨v,?_,gf h4⟩
    simp only[h1]
    exact fX h3
  ·cases h
 case convert src dst x=>
  split at h
  ·rename_i k n ds k' ha hs hk
   have h1:=(dM (hev x _ ha)).1
   injection h with h
   subst h
   have hd:P.underlying dst=some (.int k'):=by
    unfold xD at hk
    cases hu:P.underlying dst with
    |none=>rw[hu]at hk;cases hk
    |some d=>rw[hu]at hk;cases d<;>simp at hk;rw[hk]
   refine⟨_,?_,gf rfl⟩
   simp only[h1]
   refine fX ?_
   unfold convert
   rw[Sem.run_bind,run_underlying hs,Result.andThen_ok,Sem.run_bind,run_underlying hd,Result.andThen_ok]
   rfl
  ·cases h
 case extract x i=>
  split at h
  ·rename_i ts ha
   obtain⟨vs,hvs,hsz,hr⟩:=hev x _ ha
   split at h
   ·rename_i cs hi
    injection h with h
    subst h
    obtain⟨u,hu,hc⟩:=hr i _ _ hi
    rcases hc with⟨_,hc⟩|⟨hc,_⟩
    ·refine⟨u,?_,hc⟩
     refine fX ?_
     simp only[hvs,Instr.extract,hu];rfl
    ·cases hc
   ·rename_i y hi
    injection h with h
    subst h
    obtain⟨u,hu,hc⟩:=hr i _ _ hi
    rcases hc with⟨hc,_⟩|⟨_,z,hz,hc⟩
    ·cases hc
    ·injection hz with hz
     subst hz
     refine⟨u,?_,hc⟩
     refine fX ?_
     simp only[hvs,Instr.extract,hu];rfl
   ·cases h
  ·cases h
end
end
section
section
variable {P:Program} {ρ:gm} {H:OH} {X:Nat->Prop} {w:World}
theorem mp {t:TypeId} {n:Nat} (h:kD P t=some n): ∃i,P.info? t=some i/\i.size=n:=by
 unfold kD at h
 cases hi:P.info? t with
 |none=>rw[hi]at h;cases h
 |some i=>rw[hi]at h;simp at h;exact⟨i,rfl,h⟩
theorem wu {t:TypeId} {i:TypeInfo} (h:P.info? t=some i):(typeInfo t).run P w= .ok i w:=by
 unfold typeInfo
 show (match P.info? t with | some i => pure i | none => stuck "no such type" : Sem TypeInfo).run P w = _
 rw[h];rfl
theorem gA {t:TypeId} {n:Nat} (h:kD P t=some n):(sizeOf t).run P w= .ok n w:=by
 obtain⟨i,hi,hn⟩:=mp h
 unfold sizeOf
 rw[Sem.run_bind,wu hi,Result.andThen_ok,hn]
 rfl
theorem pd {t:TypeId} {b:Bool} (h:mY P t=some b):(isAgg t).run P w= .ok b w:=by
 unfold mY at h
 cases hu:P.underlying t with
 |none=>rw[hu]at h;cases h
 |some d=>
  rw[hu]at h
  unfold isAgg
  rw[Sem.run_bind,run_underlying hu,Result.andThen_ok]
  cases d<;>simp at h<;>subst h<;>rfl
theorem eP {t e:TypeId} (h:fb P t=some e):P.underlying t=some (.slice e):=by
 unfold fb at h
 cases hu:P.underlying t with
 |none=>rw[hu]at h;cases h
 |some d=>rw[hu]at h;cases d<;>simp at h;rw[h]
theorem lX {t:TypeId} {f off:Nat} {ft:TypeId} (h:iu P t f=some (off,ft)): ∃fs d,P.underlying t=some (.struct fs)/\fs[f]?=some d/\d.offset=off/\d.type=ft:=by
 unfold iu at h
 cases hu:P.underlying t with
 |none=>rw[hu]at h;cases h
 |some d=>
  rw[hu]at h
  cases d<;>simp at h
  rename_i fs
  obtain⟨d,hd,h1,h2⟩:=h
  exact⟨fs,d,rfl,hd,h1,h2⟩
def mF (ρ:gm) (H:OH) (X:Nat->Prop) (w:World) (b off:Nat) (cs:List AV):Prop:=
 ∀(j:Nat) x,cs[j]?=some x-> ∃v:Value,w.cell? ⟨b,off+j,none⟩=some v/\v.oneCell'=true/\x.rel ρ H X w v
theorem kP {b off:Nat} {cs:List AV} (h:mF ρ H X w b off cs) (k:Nat):mF ρ H X w b (off+k) (cs.drop k):=by
 intro j x hx
 rw[List.getElem?_drop]at hx
 obtain⟨v,h1,h2⟩:=h _ _ hx
 exact⟨v,by rw[<- Nat.add_assoc]at h1;exact h1,h2⟩
theorem vt {b off:Nat} {cs:List AV} (h:mF ρ H X w b off cs):
  ∃vs:List Value,vs.length=cs.length/\(∀(j:Nat) v,vs[j]?=some v->w.cell? ((⟨b,off,none⟩:Addr).add j)=some v)/\(∀(j:Nat) x,cs[j]?=some x-> ∃u:Value,vs[j]?=some u/\u.oneCell'=true/\x.rel ρ H X w u):=by
 induction cs generalizing off with
 |nil=>exact⟨[],rfl,fun j v hv=>by simp at hv,fun j x hx=>by simp at hx⟩
 |cons c cs ih=>
  obtain⟨v,h1,h2,h3⟩:=h 0 c rfl
  obtain⟨vs,l1,l2,l3⟩:=ih (off:=off+1) (kP (cs:=c::cs) h 1)
  refine⟨v::vs,by simp[l1],fun j u hu=>?_,fun j x hx=>?_⟩
  ·cases j with
   |zero=>simp at hu;subst hu;simpa[Addr.add_lit] using h1
   |succ j=>
    simp at hu
    have:=l2 j u hu
    rw[Addr.add_lit]at this⊢
    rw[<- this];congr 2;omega
  ·cases j with
   |zero=>simp at hx;subst hx;exact⟨v,rfl,h2,h3⟩
   |succ j=>simp at hx;obtain⟨u,h⟩:=l3 j x hx;exact⟨u,by simpa using h.1,h.2⟩
theorem nS {t:TypeId} {cs:List AV} {T:TV} {b off:Nat} (h:aA P t cs=some T) (hc:mF ρ H X w b off cs):
  ∃v,(loadVar t ⟨b,off,none⟩).run P w= .ok v w/\T.rel ρ H X w v:=by
 unfold aA at h
 split at h
 ·rename_i n hn ha
  split at h
  ·rename_i hl
   injection h with h
   subst h
   obtain⟨vs,l1,l2,l3⟩:=vt (cs:=cs.take n) (b:=b) (off:=off) (fun j x hx=>by
    rw[List.getElem?_take]at hx
    split at hx
    ·exact hc j x hx
    ·cases hx)
   refine⟨.agg vs.toArray,?_,vs.toArray,rfl,by simp[l1],fun j x hx=>?_⟩
   ·unfold loadVar
    rw[Sem.run_bind,pd ha,Result.andThen_ok,if_pos rfl,Sem.run_bind,gA hn,Result.andThen_ok]
    have:=run_loadCells_list (P:=P) w ⟨b,off,none⟩ vs l2
    rw[show vs.length=n by rw[l1,List.length_take];omega]at this
    rw[Sem.run_bind,this]
    rfl
   ·simpa using l3 j x hx
  ·cases h
 ·rename_i hn ha
  split at h
  ·rename_i x l
   injection h with h
   subst h
   obtain⟨v,h1,h2,h3⟩:=hc 0 x rfl
   refine⟨v,?_,h3⟩
   unfold loadVar
   rw[Sem.run_bind,pd ha,Result.andThen_ok,if_neg (by simp),run_load]
   simp only[Nat.add_zero]at h1
   rw[h1]
  ·cases h
 ·cases h
theorem j4 {cs:List PV} {v:Value} (h:dy X w (.ptr cs) v): ∃b off,v= .pointer (some ⟨b,off,none⟩)/\ ¬X b/\mF ρ H X w b off (cs.map AV.p):=by
 cases h with
 |ptr b off cs f hX hb hc hr=>
  refine⟨b,off,rfl,hX,fun j x hx=>?_⟩
  rw[List.getElem?_map]at hx
  cases hj:cs[j]? with
  |none=>rw[hj]at hx;cases hx
  |some y=>
   rw[hj]at hx
   simp at hx
   subst hx
   exact⟨f j,hc j y hj,(hr j y hj).one,hr j y hj⟩
theorem wm {cs:List PV} {b off k:Nat} (h:dy X w (.ptr cs) (.pointer (some ⟨b,off,none⟩))):dy X w (.ptr (cs.drop k)) (.pointer (some ⟨b,off+k,none⟩)):=by
 cases h with
 |ptr b off cs f hX hb hc hr=>
  refine .ptr b (off+k) (cs.drop k) (fun j=>f (k+j)) hX hb (fun j x hx=>?_) (fun j x hx=>?_)
  ·rw[List.getElem?_drop]at hx
   rw[Nat.add_assoc];exact hc _ _ hx
  ·rw[List.getElem?_drop]at hx
   exact hr _ _ hx
theorem uM {a r:Nat} {o:OObj} {b c i:Nat} {e:List AV} (ho:objRel ρ H X w a r o) (hρ:ρ a r=some (b,c)) (he:o.elems[i]?=some e):mF ρ H X w b (i*o.es) e:=by
 obtain⟨_,_,h3⟩:=ho
 rw[hρ]at h3
 obtain⟨cells,hh,_,_,_,hv⟩:=h3
 intro j x hx
 obtain⟨v,h1,h2,h3⟩:=hv i e j x he hx
 refine⟨v,?_,h2,h3⟩
 unfold World.cell?
 simp only[hh]
 exact h1
theorem sn {z:Int} {n:Nat} (h:xN z=some n):0<=z/\z.toNat=n:=by
 unfold xN at h
 split at h
 ·injection h with h;exact⟨by assumption,h⟩
 ·cases h
theorem Cv {ev:Operand->Option TV} {e:Operand->Value} (hev:iT ρ H X w ev e) (hob: ∀(a r:Nat) (o:OObj),(H a)[r]?=some o->objRel ρ H X w a r o)
  {o:Oper} {t:TypeId} {x:Operand} {T:TV} (ho:o.op= .load t x) (h:au P ev H o.op=some T): ∃v,(execOp e o).run P w= .ok (.value v) w/\T.rel ρ H X w v:=by
 unfold execOp
 rw[ho]at h⊢
 simp only[au]at h
 split at h
 ·rename_i cs hx
  obtain⟨b,off,hv,hX,hc⟩:=j4 (ρ:=ρ) (H:=H) (hev x _ hx)
  obtain⟨v,h1,h2⟩:=nS h hc
  refine⟨v,fX ?_,h2⟩
  rw[hv]
  exact h1
 ·rename_i a r i j hx
  obtain⟨o',b,c,h1,h2,h3,hv⟩:=hev x _ hx
  split at h
  ·rename_i o'' ho'
   rw[h1]at ho'
   injection ho' with ho'
   subst ho'
   split at h
   ·rename_i el hel
    obtain⟨v,g1,g2⟩:=nS h (kP (uM (hob a r _ h1) h2 hel) j)
    refine⟨v,fX ?_,g2⟩
    rw[hv]
    exact g1
   ·cases h
  ·cases h
 ·cases h
theorem rX {ev:Operand->Option TV} {e:Operand->Value} (hev:iT ρ H X w ev e) (hob: ∀(a r:Nat) (o:OObj),(H a)[r]?=some o->objRel ρ H X w a r o)
  {o:Oper} {t:TypeId} {x ix:Operand} {T:TV} (ho:o.op= .indexAddr t x ix) (h:au P ev H o.op=some T): ∃v,(execOp e o).run P w= .ok (.value v) w/\T.rel ρ H X w v:=by
 unfold execOp
 rw[ho]at h⊢
 simp only[au]at h
 split at h
 ·rename_i k n hix
  have hn:=(dM (hev ix _ hix)).1
  split at h
  ·cases h
  ·rename_i i hi
   obtain⟨h0,hi⟩:=sn hi
   split at h
   ·rename_i el xs hs hx
    have hx:=hev x _ hx
    split at h
    ·rename_i c hc
     split at h
     ·rename_i hsz
      injection h with h
      subst h
      generalize hvx:e x=vx at*
      have hil:i<xs.length:=(List.getElem?_eq_some_iff.1 hc).1
      cases hx with
      |nil a c=>simp at hil
      |sl b off es cap xs f hX hb hes hcap hm hcell hrep=>
       have hes':c.length=es:=hes c (List.mem_of_getElem? hc)
       refine⟨.pointer (some ⟨b,off+i*es,none⟩),fX ?_,.ptr b (off+i*es) c (f i) hX hb (fun j y hy=>hcell i c j y hc hy) (fun j y hy=>hrep i c j y hc hy)⟩
       unfold Instr.indexAt
       rw[hn,hvx,Sem.run_bind]
       show Result.andThen (.ok (k,n) w) _=_
       rw[Result.andThen_ok]
       simp only[Sem.run_bind,run_underlying (eP hs),Result.andThen_ok,Sem.run_pure]
       rw[if_pos ⟨h0,by omega⟩,Sem.run_bind,gA hsz,Result.andThen_ok]
       rw[hi,Addr.add_lit,hes']
       rfl
     ·cases h
    ·cases h
   ·rename_i el a r off len hs hx
    obtain⟨o',h1,h2,h3⟩:=hev x _ hx
    split at h
    ·rename_i o'' ho'
     rw[h1]at ho'
     injection ho' with ho'
     subst ho'
     split at h
     ·rename_i hcond
      injection h with h
      subst h
      rcases h3 with⟨_,_,hlen,_⟩|⟨b,c,hρ,hv⟩
      ·omega
      ·refine⟨.pointer (some ⟨b,(off+i)*o'.es+0,none⟩),fX ?_,o',b,c,h1,hρ,by omega,rfl⟩
       unfold Instr.indexAt
       rw[hn,hv,Sem.run_bind]
       show Result.andThen (.ok (k,n) w) _=_
       rw[Result.andThen_ok]
       simp only[Sem.run_bind,run_underlying (eP hs),Result.andThen_ok,Sem.run_pure]
       rw[if_pos ⟨h0,by omega⟩,Sem.run_bind,gA hcond.1,Result.andThen_ok]
       rw[hi,Addr.add_lit,Nat.add_zero,Nat.add_mul]
       rfl
     ·cases h
    ·cases h
   ·cases h
 ·cases h
theorem rW {ev:Operand->Option TV} {e:Operand->Value} (hev:iT ρ H X w ev e)
  {o:Oper} {t:TypeId} {x:Operand} {f:Nat} {T:TV} (ho:o.op= .fieldAddr t x f) (h:au P ev H o.op=some T): ∃v,(execOp e o).run P w= .ok (.value v) w/\T.rel ρ H X w v:=by
 unfold execOp
 rw[ho]at h⊢
 simp only[au]at h
 split at h
 ·rename_i off ft cs hf hx
  obtain⟨b,o0,hv,hX,hc⟩:=j4 (ρ:=ρ) (H:=H) (hev x _ hx)
  have hx:=hev x _ hx
  split at h
  ·rename_i n hsz
   injection h with h
   subst h
   obtain⟨fs,d,h1,h2,h3,h4⟩:=lX hf
   rw[hv]at hx
   refine⟨_,fX ?_,wm hx⟩
   unfold Instr.fieldAt
   rw[Sem.run_bind,run_underlying h1,Result.andThen_ok]
   simp only[h2,hv,Instr.sureAddr,Sem.run_bind,Sem.run_pure,Result.andThen_ok,fieldPlace,h4,gA hsz]
   rw[if_neg (by simp)]
   simp only[Sem.run_pure,Result.andThen_ok,h3,Addr.add_lit]
  ·cases h
 ·rename_i off ft a r i j hf hx
  obtain⟨o',b,c,g1,g2,g3,hv⟩:=hev x _ hx
  split at h
  ·rename_i n hsz
   injection h with h
   subst h
   obtain⟨fs,d,h1,h2,h3,h4⟩:=lX hf
   refine⟨_,fX ?_,o',b,c,g1,g2,g3,rfl⟩
   unfold Instr.fieldAt
   rw[Sem.run_bind,run_underlying h1,Result.andThen_ok]
   simp only[h2,hv,Instr.sureAddr,Sem.run_bind,Sem.run_pure,Result.andThen_ok,fieldPlace,h4,gA hsz]
   rw[if_neg (by simp)]
   simp only[Sem.run_pure,Result.andThen_ok,h3,Addr.add_lit,Nat.add_assoc]
  ·cases h
 ·cases h
end
end
section
section
variable {P:Program} {ρ:gm} {H:OH} {X:Nat->Prop} {w:World}
theorem zT {t:TypeId} {cs:List AV} {T:TV} {vs:Array Value} {off:Nat} (h:aA P t (cs.drop off)=some T) (hs:vs.size=cs.length)
  (hc: ∀(j:Nat) x,cs[j]?=some x-> ∃u:Value,vs[j]?=some u/\u.oneCell'=true/\x.rel ρ H X w u):
  ∃v,(part t vs off).run P w= .ok v w/\T.rel ρ H X w v:=by
 unfold aA at h
 split at h
 ·rename_i n hn ha
  split at h
  ·rename_i hl
   injection h with h
   subst h
   refine⟨.agg (vs.extract off (off+n)),?_,_,rfl,?_,fun j x hx=>?_⟩
   ·unfold part
    rw[Sem.run_bind,pd ha,Result.andThen_ok,if_pos rfl,Sem.run_bind,gA hn,Result.andThen_ok]
    rfl
   ·simp at hl⊢;omega
   ·rw[List.getElem?_take]at hx
    split at hx
    ·rename_i hj
     rw[List.getElem?_drop]at hx
     obtain⟨u,h1,h2⟩:=hc _ x hx
     refine⟨u,?_,h2⟩
     rw[Array.getElem?_extract,if_pos (by have:=(Array.getElem?_eq_some_iff.1 h1).1;omega)]
     exact h1
    ·cases hx
  ·cases h
 ·rename_i hn ha
  split at h
  ·rename_i x l hl
   injection h with h
   subst h
   have hx:cs[off]?=some x:=by
    have:(cs.drop off)[0]?=some x:=by rw[hl];rfl
    rw[List.getElem?_drop]at this;simpa using this
   obtain⟨u,h1,h2,h3⟩:=hc _ x hx
   refine⟨u,?_,h3⟩
   unfold part
   rw[Sem.run_bind,pd ha,Result.andThen_ok,if_neg (by simp),h1]
   rfl
  ·cases h
 ·cases h
theorem zl {ev:Operand->Option TV} {e:Operand->Value} (hev:iT ρ H X w ev e)
  {o:Oper} {t:TypeId} {x:Operand} {f:Nat} {T:TV} (ho:o.op= .field t x f) (h:au P ev H o.op=some T): ∃v,(execOp e o).run P w= .ok (.value v) w/\T.rel ρ H X w v:=by
 unfold execOp
 rw[ho]at h⊢
 simp only[au]at h
 split at h
 ·rename_i off ft cs hf hx
  obtain⟨vs,hv,hs,hc⟩:=hev x _ hx
  obtain⟨fs,d,h1,h2,h3,h4⟩:=lX hf
  obtain⟨v,g1,g2⟩:=zT h hs hc
  refine⟨v,fX ?_,g2⟩
  unfold Instr.field
  rw[Sem.run_bind,run_underlying h1,Result.andThen_ok]
  simp only[h2,hv,asAgg,Sem.run_bind,Sem.run_pure,Result.andThen_ok,h3,h4,g1]
 ·cases h
theorem nB {ev:Operand->Option TV} {e:Operand->Value} (hev:iT ρ H X w ev e) {x:Option Operand} {d n:Nat} (h:gC ev x d=some n):
  (x=none/\n=d)\/ ∃y k z,x=some y/\e y= .int k z/\0<=z/\z.toNat=n:=by
 unfold gC at h
 split at h
 ·injection h with h;exact .inl ⟨rfl,h.symm⟩
 ·rename_i dd y
  split at h
  ·rename_i k z hy
   obtain⟨h1,h2⟩:=sn h
   exact .inr ⟨y,k,z,rfl,(dM (hev y _ hy)).1,h1,h2⟩
  ·cases h
theorem ig {k:IntKind} {z:Int} {y n:Nat} {c:BoundsCode} (h0:0<=z) (hn:z.toNat=n) (hy:n<=y):(Instr.sliceBound (.int k z) y c).run P w= .ok n w:=by
 unfold Instr.sliceBound
 show(if 0<=z/\z<=y then(pure z.toNat:Sem Nat)else boundsPanic k z y c).run P w=_
 rw[if_pos ⟨h0,by omega⟩,hn]
 rfl
theorem fM {ev:Operand->Option TV} {e:Operand->Value} (hev:iT ρ H X w ev e) {lo hi:Option Operand} {len cap l h:Nat} (hl:gC ev lo 0=some l) (hh:gC ev hi len=some h) (h1:l<=h) (h2:h<=cap):
  (Instr.sliceBounds true len cap (lo.map e) (hi.map e) none).run P w= .ok (l,h,cap) w:=by
 unfold Instr.sliceBounds
 rcases nB hev hl with⟨rfl,rfl⟩|⟨y,k,z,rfl,a1,a2,a3⟩
 ·rcases nB hev hh with⟨rfl,rfl⟩|⟨y',k',z',rfl,b1,b2,b3⟩
  ·rfl
  ·simp only[Option.map_some,Option.map_none,Sem.run_bind,Sem.run_pure,Result.andThen_ok,b1]
   rw[ig b2 b3 h2];rfl
 ·rcases nB hev hh with⟨rfl,rfl⟩|⟨y',k',z',rfl,b1,b2,b3⟩
  ·simp only[Option.map_some,Option.map_none,Sem.run_bind,Sem.run_pure,Result.andThen_ok,a1]
   rw[ig a2 a3 h1];rfl
  ·simp only[Option.map_some,Option.map_none,Sem.run_bind,Sem.run_pure,Result.andThen_ok,a1,b1]
   rw[ig b2 b3 h2,Result.andThen_ok,ig a2 a3 h1];rfl
theorem zm {ev:Operand->Option TV} {e:Operand->Value} (hev:iT ρ H X w ev e) (hob: ∀(a r:Nat) (o:OObj),(H a)[r]?=some o->objRel ρ H X w a r o)
  {o:Oper} {t:TypeId} {x:Operand} {lo hi mx:Option Operand} {T:TV} (ho:o.op= .slice t x lo hi mx) (h:au P ev H o.op=some T): ∃v,(execOp e o).run P w= .ok (.value v) w/\T.rel ρ H X w v:=by
 unfold execOp
 rw[ho]at h⊢
 cases mx with
 |some _=>simp only[au]at h;cases h
 |none=>
 simp only[au]at h
 split at h
 ·rename_i el xs hs hx
  have hx:=hev x _ hx
  generalize hvx:e x=vx at*
  split at h
  ·rename_i l hh n hl hhi hsz
   split at h
   ·rename_i hcond
    injection h with h
    subst h
    obtain⟨c1,c2,c3⟩:=hcond
    have hu:=eP hs
    cases hx with
    |nil a c=>
     have hh0:hh=0:=by simpa using c2
     subst hh0
     have hl0:l=0:=by omega
     subst hl0
     refine⟨.slice (if c=0 then a else a.map (·.add (0*n))) (0-0) (c-0),fX ?_,?_⟩
     ·unfold Instr.sliceAt
      simp only[Sem.run_bind,run_underlying hu,Result.andThen_ok]
      unfold Instr.slice
      simp only[Sem.run_bind,run_underlying hu,Result.andThen_ok,hvx,Option.map_none]
      rw[fM hev hl (show gC ev hi 0=some 0 from hhi) (Nat.le_refl _) (Nat.zero_le _),Result.andThen_ok]
      simp only[Sem.run_bind,gA hsz,Result.andThen_ok,Sem.run_pure]
     ·simp only[List.take_nil,List.drop_nil]
      exact dy.nil _ _
    |sl b off es cap xs f hX hb hes hcap hm hcell hrep=>
     refine⟨.slice (if cap=l then some ⟨b,off,none⟩else(some (⟨b,off,none⟩:Addr)).map (·.add (l*n))) (hh-l) (cap-l),fX ?_,?_⟩
     ·unfold Instr.sliceAt
      simp only[Sem.run_bind,run_underlying hu,Result.andThen_ok]
      unfold Instr.slice
      simp only[Sem.run_bind,run_underlying hu,Result.andThen_ok,hvx,Option.map_none]
      rw[fM hev hl hhi c1 (by omega),Result.andThen_ok]
      simp only[Sem.run_bind,gA hsz,Result.andThen_ok,Sem.run_pure]
     ·show dy _ _ _ _
      have hlen:((xs.take hh).drop l).length=hh-l:=by simp;omega
      by_cases hlh:l=hh
      ·subst hlh
       rw[show(xs.take l).drop l=[] by rw[List.drop_eq_nil_iff];simp;omega]
       rw[Nat.sub_self]
       exact dy.nil _ _
      ·rw[if_neg (by omega)]
       simp only[Option.map_some,Addr.add_lit]
       rw[<- hlen]
       have hes':es=n:=by
        cases hx0:xs with
        |nil=>rw[hx0]at c2;simp at c2;omega
        |cons y ys=>have h1:=hes y (by rw[hx0];simp);have h2:=c3 y (by rw[hx0];simp);omega
       subst hes'
       have hsub: ∀(i:Nat) y,((xs.take hh).drop l)[i]?=some y->xs[l+i]?=some y:=fun i y hy=>by
        rw[List.getElem?_drop,List.getElem?_take]at hy
        split at hy
        ·exact hy
        ·cases hy
       refine .sl b (off+l*es) es (cap-l) _ (fun i j=>f (l+i) j) hX hb (fun y hy=>hes y (List.mem_of_mem_take (List.mem_of_mem_drop hy))) (by rw[hlen];omega) (by rw[hlen];omega) (fun i y j z h1 h2=>?_) (fun i y j z h1 h2=>hrep _ y j z (hsub i y h1) h2)
       have:=hcell _ y j z (hsub i y h1) h2
       rw[<- this]
       congr 2
       rw[Nat.add_mul];omega
   ·cases h
  ·cases h
 ·rename_i el a r off len hs hx
  obtain⟨o',g1,g2,g3⟩:=hev x _ hx
  have hu:=eP hs
  split at h
  ·rename_i l hh o'' hl hhi ho''
   rw[g1]at ho''
   injection ho'' with ho''
   subst ho''
   have hcle: ∀b c,ρ a r=some (b,c)->o'.elems.length<=c:=fun b c hρ=>by
    obtain⟨_,_,h3⟩:=hob a r o' g1
    rw[hρ]at h3
    obtain⟨_,_,_,h,_⟩:=h3
    exact h
   split at h
   ·rename_i hcond
    obtain⟨c1,c2,c3⟩:=hcond
    injection h with h
    subst h
    rcases g3 with⟨_,_,h0,_⟩|⟨b,c,hρ,hv⟩
    ·omega
    ·have:=hcle b c hρ
     refine⟨_,fX ?_,o',g1,by omega,.inr ⟨b,c,hρ,rfl⟩⟩
     unfold Instr.sliceAt
     simp only[Sem.run_bind,run_underlying hu,Result.andThen_ok]
     unfold Instr.slice
     simp only[Sem.run_bind,run_underlying hu,Result.andThen_ok,hv,Option.map_none]
     rw[fM hev hl hhi (by omega) (by omega),Result.andThen_ok]
     simp only[Sem.run_bind,gA c1,Result.andThen_ok,Sem.run_pure]
     rw[if_neg (by omega)]
     simp only[Option.map_some,Addr.add_lit]
     rw[Nat.add_mul,Nat.sub_sub]
   ·split at h
    ·rename_i hcond
     obtain⟨c1,c2,c3⟩:=hcond
     injection h with h
     subst h
     subst c2
     rcases g3 with⟨_,hv,h0,_⟩|⟨b,c,hρ,hv⟩
     ·refine⟨.slice (if 0=l then none else(none:Option Addr).map (·.add (l*o'.es))) 0 (0-l),fX ?_,dy.nil _ _⟩
      unfold Instr.sliceAt
      simp only[Sem.run_bind,run_underlying hu,Result.andThen_ok]
      unfold Instr.slice
      simp only[Sem.run_bind,run_underlying hu,Result.andThen_ok,hv,Option.map_none]
      subst h0
      rw[fM hev hl hhi (by omega) (by omega),Result.andThen_ok]
      simp only[Sem.run_bind,gA c1,Result.andThen_ok,Sem.run_pure,Nat.sub_self]
     ·have:=hcle b c hρ
      refine⟨.slice (if c-off=l then some ⟨b,off*o'.es,none⟩else(some (⟨b,off*o'.es,none⟩:Addr)).map (·.add (l*o'.es))) 0 (c-off-l),fX ?_,dy.nil _ _⟩
      unfold Instr.sliceAt
      simp only[Sem.run_bind,run_underlying hu,Result.andThen_ok]
      unfold Instr.slice
      simp only[Sem.run_bind,run_underlying hu,Result.andThen_ok,hv,Option.map_none]
      rw[fM hev hl hhi (by omega) (by omega),Result.andThen_ok]
      simp only[Sem.run_bind,gA c1,Result.andThen_ok,Sem.run_pure,Nat.sub_self]
    ·cases h
  ·cases h
 ·cases h
theorem tN {ev:Operand->Option TV} {e:Operand->Value} (hev:iT ρ H X w ev e)
  {o:Oper} {x:Operand} {T:TV} (ho:o.op= .nilCheck x) (h:au P ev H o.op=some T): ∃v,(execOp e o).run P w= .ok (.value v) w/\T.rel ρ H X w v:=by
 unfold execOp
 rw[ho]at h⊢
 simp only[au]at h
 split at h
 ·rename_i cs hx
  obtain⟨b,off,hv,hX,hc⟩:=j4 (ρ:=ρ) (H:=H) (hev x _ hx)
  injection h with h
  subst h
  refine⟨e x,?_,hev x _ hx⟩
  simp only[hv];rfl
 ·rename_i a r i j hx
  have hr:=hev x _ hx
  obtain⟨o',b,c,h1,h2,h3,hv⟩:=hr
  injection h with h
  subst h
  refine⟨e x,?_,hev x _ hx⟩
  simp only[hv];rfl
 ·cases h
theorem H6 {t e ty:TypeId} {a:Option Addr} {n c:Nat} (ht:P.underlying t=some (.slice e)):(Builtin.len_ #[t] ty #[.slice a n c]).run P w= .ok (goInt n) w:=by
 simp[Builtin.len_,run_underlying ht]
theorem Eh {ev:Operand->Option TV} {e:Operand->Value} (hev:iT ρ H X w ev e)
  {o:Oper} {args:Array Operand} {argTypes:Array TypeId} {T:TV} (ho:o.op= .call {callee:= .builtin .len,args,argTypes}) (h:au P ev H o.op=some T): ∃v,(execOp e o).run P w= .ok (.value v) w/\T.rel ρ H X w v:=by
 unfold execOp
 rw[ho]at h⊢
 simp only[au]at h
 obtain⟨args⟩:=args
 obtain⟨argTypes⟩:=argTypes
 split at h
 ·rename_i x t hx ht
  simp only at hx ht
  subst hx ht
  have key: ∀a n c el,fb P t=some el->e x= .slice a n c->T= .raw (.int .i64 n)-> ∃v,(do let d<- resolve e {callee:= .builtin .len,args:=⟨[x]⟩,argTypes:=⟨[t]⟩} o.type;invoke d.target d.args:Sem Next).run P w= .ok (.value v) w/\T.rel ρ H X w v:=by
   intro a n c el hs hv hT
   subst hT
   refine⟨.int .i64 n,?_,gf rfl⟩
   simp only[resolve,invoke,builtin,Sem.run_bind,Sem.run_pure,Result.andThen_ok,List.map_toArray,List.map_cons,List.map_nil,hv,H6 (eP hs)]
   rfl
  split at h
  ·rename_i el xs hs hx
   injection h with h
   have hx:=hev x _ hx
   generalize hvx:e x=vx at hx
   cases hx with
   |nil a c=>exact key _ _ _ _ hs hvx h.symm
   |sl b off es cap xs f=>exact key _ _ _ _ hs hvx h.symm
  ·rename_i el a r off len hs hx
   injection h with h
   obtain⟨o',g1,g2,g3⟩:=hev x _ hx
   rcases g3 with⟨_,hv,h0,_⟩|⟨b,c,hρ,hv⟩
   ·subst h0;exact key _ _ _ _ hs hv h.symm
   ·exact key _ _ _ _ hs hv h.symm
  ·rename_i el a n c hs hx
   injection h with h
   exact key _ _ _ _ hs (dM (hev x _ hx)).1 h.symm
  ·cases h
 ·cases h
end
end
section
section
variable {P:Program} {ρ:gm} {H:OH} {X:Nat->Prop} {w:World}
def lS (ρ:gm) (H:OH) (X:Nat->Prop) (w:World) (cs:List AV) (vs:Array Value):Prop:=
 vs.size=cs.length/\ ∀(j:Nat) x,cs[j]?=some x-> ∃u:Value,vs[j]?=some u/\u.oneCell'=true/\x.rel ρ H X w u
theorem kf {v:Value} (h:v.oneCell'=true):v.cells= #[v]:=by cases v<;>first|rfl|cases h
theorem jG {t:TV} {cs:List AV} {v:Value} (h:cellsOf t=some cs) (hr:t.rel ρ H X w v):lS ρ H X w cs v.cells:=by
 unfold cellsOf at h
 split at h
 ·rename_i x
  injection h with h
  subst h
  have h1:v.oneCell'=true:=dy.one hr
  rw[kf h1]
  refine⟨rfl,fun j y hy=>?_⟩
  cases j with
  |zero=>simp at hy;subst hy;exact⟨v,rfl,h1,hr⟩
  |succ j=>simp at hy
 ·injection h with h
  subst h
  obtain⟨vs,rfl,h1,h2⟩:=hr
  exact⟨h1,h2⟩
 ·cases h
theorem x7 {z:List Value} (h:z.all (·.oneCell')=true):lS ρ H X w (z.map AV.raw) z.toArray:=by
 simp only[List.all_eq_true]at h
 refine⟨by simp,fun j x hx=>?_⟩
 rw[List.getElem?_map]at hx
 cases hj:z[j]? with
 |none=>rw[hj]at hx;cases hx
 |some u=>
  rw[hj]at hx
  simp at hx
  subst hx
  have h1:=h u (List.mem_of_getElem? hj)
  exact⟨u,by simpa using hj,h1,dy.raw u h1⟩
theorem pG (off:Nat): ∀(vs:List Value) (k:Nat) (cells:Array Value),off+k+vs.length<=cells.size->
  ((vs.zipIdx k).foldl (fun cs (c,j)=>cs.setIfInBounds (off+j) c) cells).size=cells.size/\
  ∀j:Nat,((vs.zipIdx k).foldl (fun cs (c,j)=>cs.setIfInBounds (off+j) c) cells)[j]?=if off+k<=j/\j<off+k+vs.length then vs[j-(off+k)]? else cells[j]?
 |[],k,cells,_=>⟨rfl,fun j=>by rw[if_neg (by simp)];rfl⟩
 |v::vs,k,cells,h=>by
  simp at h
  obtain⟨h1,h2⟩:=pG off vs (k+1) (cells.setIfInBounds (off+k) v) (by simp;omega)
  simp only[List.zipIdx_cons,List.foldl_cons]
  refine⟨by rw[h1];simp,fun j=>?_⟩
  rw[h2]
  by_cases hj:j=off+k
  ·subst hj
   rw[if_neg (by omega),if_pos (by simp)]
   rw[Array.getElem?_setIfInBounds_self_of_lt (by omega)]
   simp
  ·by_cases hr:off+(k+1)<=j/\j<off+(k+1)+vs.length
   ·rw[if_pos hr,if_pos (by simp;omega)]
    rw[show j-(off+k)=(j-(off+(k+1)))+1 by omega,List.getElem?_cons_succ]
   ·rw[if_neg hr,if_neg (by simp;omega),Array.getElem?_setIfInBounds_ne (by omega)]
theorem ww {α:Type} {l ys:List α} {off:Nat} (h:off+ys.length<=l.length) (j:Nat):
  (l.take off++ys++l.drop (off+ys.length))[j]?=if off<=j/\j<off+ys.length then ys[j-off]? else l[j]?:=by
 have hlt:(l.take off).length=off:=by simp;omega
 by_cases h1:j<off
 ·rw[if_neg (by omega),List.append_assoc,List.getElem?_append_left (by omega),List.getElem?_take,if_pos h1]
 ·by_cases h2:j<off+ys.length
  ·rw[if_pos ⟨by omega,h2⟩,List.append_assoc,List.getElem?_append_right (by omega),hlt,List.getElem?_append_left (by omega)]
  ·rw[if_neg (by omega),List.getElem?_append_right (by simp;omega),List.getElem?_drop]
   congr 1
   simp
   omega
theorem DN {cs ys:List AV} {vs us:Array Value} {off:Nat} (h1:lS ρ H X w cs vs) (h2:lS ρ H X w ys us) (h:off+ys.length<=cs.length):
  lS ρ H X w (cs.take off++ys++cs.drop (off+ys.length)) (us.zipIdx.foldl (fun cs (c,j)=>cs.setIfInBounds (off+j) c) vs):=by
 obtain⟨us⟩:=us
 have hul:us.length=ys.length:=h2.1
 have hf:=pG off us 0 vs (by rw[h1.1];simp;omega)
 have e:(us.toArray.zipIdx.foldl (fun cs (c,j)=>cs.setIfInBounds (off+j) c) vs)=((us.zipIdx 0).foldl (fun cs (c,j)=>cs.setIfInBounds (off+j) c) vs):=by
  rw[<- Array.foldl_toList];simp
 rw[e]
 refine⟨by rw[hf.1,h1.1];simp;omega,fun j x hx=>?_⟩
 rw[ww h]at hx
 rw[hf.2 j]
 split at hx
 ·rename_i hj
  rw[if_pos (by omega)]
  obtain⟨u,h3,h4⟩:=h2.2 _ _ hx
  exact⟨u,by simpa using h3,h4⟩
 ·rename_i hj
  rw[if_neg (by omega)]
  exact h1.2 _ _ hx
theorem r6 {pl:List (Nat×Nat)} {ev:Operand->Option TV} {e:Operand->Value} (hev:iT ρ H X w ev e): ∀(parts:List (Nat×Operand)) (cs cs':List AV) (vs:Array Value),
  lS ρ H X w cs vs->fm pl ev cs parts=some cs'-> ∃vs',Instr.fill (pl.toArray[·]?) vs (parts.map fun(i,x)=>(i,e x))=some vs'/\lS ρ H X w cs' vs'
 |[],cs,cs',vs,h,hf=>by simp only[fm]at hf;injection hf with hf;subst hf;exact⟨vs,rfl,h⟩
 |(f,x)::rest,cs,cs',vs,h,hf=>by
  simp only[fm]at hf
  split at hf
  ·rename_i off n ys hp hx
   obtain⟨t,ht,hys⟩:=Option.bind_eq_some_iff.1 hx
   split at hf
   ·rename_i hc
    obtain⟨c1,c2⟩:=hc
    subst c1
    have hr:=jG hys (hev x t ht)
    have h2:=DN h hr c2
    obtain⟨vs',h3,h4⟩:=r6 hev rest _ cs' _ h2 hf
    refine⟨vs',?_,h4⟩
    simp only[List.map_cons,Instr.fill]
    have hp':pl.toArray[f]?=some (off,ys.length):=by simpa using hp
    rw[hp']
    simp only
    rw[if_neg]
    ·exact h3
    ·simp only[Bool.or_eq_true,decide_eq_true_eq]
     have:=hr.1
     have:=h.1
     omega
   ·cases hf
  ·cases hf
theorem zk {ev:Operand->Option TV} {e:Operand->Value} (hev:iT ρ H X w ev e)
  {o:Oper} {t:TypeId} {parts:Array (Nat×Operand)} {T:TV} (ho:o.op= .build t parts) (h:au P ev H o.op=some T): ∃v,(execOp e o).run P w= .ok (.value v) w/\T.rel ρ H X w v:=by
 unfold execOp
 rw[ho]at h⊢
 simp only[au]at h
 split at h
 ·rename_i z pl hz hpl
  split at h
  ·rename_i hall
   cases hf:fm pl ev (z.map AV.raw) parts.toList with
   |none=>rw[hf]at h;cases h
   |some cs=>
    rw[hf]at h
    simp at h
    subst h
    obtain⟨vs,h1,h2,h3⟩:=r6 hev parts.toList _ cs _ (x7 hall) hf
    refine⟨.agg vs,fX (run_build w t _ vs ?_),vs,rfl,h2,h3⟩
    unfold Program.built
    unfold iM at hz
    cases hi:P.info? t with
    |none=>rw[hi]at hz;cases hz
    |some it=>
     rw[hi]at hz
     unfold oY at hpl
     cases hu:P.underlying t with
     |none=>rw[hu]at hpl;cases hpl
     |some d=>
      rw[hu]at hpl
      cases d<;>simp at hpl
      rename_i fs
      cases hzz:it.zero with
      |none=>simp[hzz]at hz
      |some zv=>
       simp[hzz]at hz
       subst hz
       simp only[hpl,hzz]
       rw[<- h1]
       simp
  ·cases h
 ·cases h
theorem fi {ev:Operand->Option TV}: ∀{l:List Operand} {ts:List TV},aD ev l=some ts->ts.length=l.length/\ ∀(j:Nat) t,ts[j]?=some t-> ∃x,l[j]?=some x/\ev x=some t
 |[],ts,h=>by simp only[aD]at h;injection h with h;subst h;exact⟨rfl,fun j t h=>by simp at h⟩
 |x::l,ts,h=>by
  simp only[aD]at h
  split at h
  ·rename_i t ts' h1 h2
   injection h with h
   subst h
   obtain⟨g1,g2⟩:=fi h2
   refine⟨by simp[g1],fun j u hu=>?_⟩
   cases j with
   |zero=>simp at hu;subst hu;exact⟨x,rfl,h1⟩
   |succ j=>simp at hu;obtain⟨y,y1,y2⟩:=g2 j u hu;exact⟨y,by simpa using y1,y2⟩
  ·cases h
theorem nE: ∀{ts:List TV} {cs:List AV},lT ts=some cs->cs.length=ts.length/\ ∀(j:Nat) x,cs[j]?=some x->ts[j]?=some (.one x)/\x≠ .junk
 |[],cs,h=>by simp only[lT]at h;injection h with h;subst h;exact⟨rfl,fun j x h=>by simp at h⟩
 |t::l,cs,h=>by
  cases t with
  |one x=>
   by_cases hx:x= .junk
   ·subst hx;simp only[lT]at h;cases h
   ·have key:lT (.one x::l)=(match lT l with|some cs=>some (x::cs)|none=>none):=by
     cases x<;>first|rfl|exact absurd rfl hx
    rw[key]at h
    split at h
    ·rename_i cs' hcs
     injection h with h
     subst h
     obtain⟨g1,g2⟩:=nE hcs
     refine⟨by simp[g1],fun j y hy=>?_⟩
     cases j with
     |zero=>simp at hy;subst hy;exact⟨rfl,hx⟩
     |succ j=>simp at hy;obtain⟨y1,y2⟩:=g2 j y hy;exact⟨by simpa using y1,y2⟩
    ·cases h
  |agg cs'=>simp only[lT]at h;cases h
  |tup ts=>simp only[lT]at h;cases h
  |fn f cs'=>simp only[lT]at h;cases h
theorem I1 {x:AV} {v:Value} (hx:x≠ .junk) (h:x.rel ρ H X w v):v.oneCell'=true:=by
 cases x with
 |p x=>exact dy.one h
 |sl a r off len=>
  obtain⟨o,_,_,h|⟨b,c,_,h⟩⟩:=h
  ·rw[h.2.1];rfl
  ·rw[h];rfl
 |ptr a r i j=>obtain⟨o,b,c,_,_,_,h⟩:=h;rw[h];rfl
 |junk=>exact absurd rfl hx
theorem tM {ev:Operand->Option TV} {e:Operand->Value} (hev:iT ρ H X w ev e)
  {o:Oper} {fn:Fn} {first captured:Array Operand} {T:TV} (ho:o.op= .makeFunc fn first captured) (h:au P ev H o.op=some T): ∃v,(execOp e o).run P w= .ok (.value v) w/\T.rel ρ H X w v:=by
 rw[ho]at h
 cases fn with
 |func f=>
  simp only[au]at h
  split at h
  ·rename_i hf
   obtain⟨cs,hcs,rfl⟩:=Option.map_eq_some_iff.1 h
   obtain⟨ts,hts,hc⟩:=Option.bind_eq_some_iff.1 hcs
   obtain⟨e1,e2⟩:=fi hts
   obtain⟨g1,g2⟩:=nE hc
   refine⟨.func (.func f) #[] (captured.map e),?_,.agg (captured.map e),⟨captured.map e,rfl,?_,fun j x hx=>?_⟩,rfl⟩
   ·unfold execOp
    rw[ho]
    simp only
    refine fX ?_
    rw[Array.isEmpty_iff]at hf
    subst hf
    simp only[Instr.makeFunc,Array.map_empty,Sem.run_pure]
   ·simp at e1⊢;omega
   ·obtain⟨h1,h2⟩:=g2 j x hx
    obtain⟨y,y1,y2⟩:=e2 j _ h1
    have hr:=hev y _ y2
    refine⟨e y,?_,I1 h2 hr,hr⟩
    rw[Array.getElem?_map];simp at y1;rw[y1];rfl
  ·cases h
 |_=>simp only[au]at h;cases h
theorem zo {ev:Operand->Option TV} {e:Operand->Value} (hev:iT ρ H X w ev e) (hob: ∀(a r:Nat) (o:OObj),(H a)[r]?=some o->objRel ρ H X w a r o)
  {o:Oper} {T:TV} (h:au P ev H o.op=some T): ∃v,(execOp e o).run P w= .ok (.value v) w/\T.rel ρ H X w v:=by
 cases ho:o.op
 case load t x=>exact Cv hev hob ho h
 case indexAddr t x i=>exact rX hev hob ho h
 case fieldAddr t x f=>exact rW hev ho h
 case field t x f=>exact zl hev ho h
 case slice t x lo hi mx=>exact zm hev hob ho h
 case build t parts=>exact zk hev ho h
 case nilCheck x=>exact tN hev ho h
 case makeFunc fn first captured=>exact tM hev ho h
 case call c=>
  obtain⟨callee,args,argTypes⟩:=c
  cases callee with
  |builtin b=>
   cases b
   case len=>exact Eh hev ho h
   all_goals (rw[ho]at h;simp only[au]at h;cases h)
  |value f=>rw[ho]at h;simp only[au]at h;cases h
  |invoke r m=>rw[ho]at h;simp only[au]at h;cases h
 all_goals (rw[ho]at h;simp only[au]at h;cases h)
end
end
end Go.Proofs.YtpgghglbpcabkaaGreat
