/-
  Part 32 of a proof (walks and plain facts).
-/
import Derived.Test.YtalmoejhjceflaaGreatQ30
set_option linter.all false
set_option maxRecDepth 100000
set_option maxHeartbeats 64000000
open List renaming replicate → ae
namespace Go.Proofs.YtalmoejhjceflaaGreat
open Go.RowKit Go.Proofs.Tryz
variable {n m:Nat} {w:World} {b:Nat->Prop} {c:FF} {e:List Int} {f:Value} {g:OH}
section
theorem WJ {l d:Int} (f:0<d):2*((l+ -(qF l d)*d).natAbs:Int)<=d:=by
 unfold qF;have b:=agl (2*l+d) (2*d);have c:=age (2*l+d) (show 2*d≠0 by omega);have e:=afL (2*l+d) (show 0<2*d by omega);grind
theorem Kk {l d:Int} (n:0<d):(qF l d).natAbs<=l.natAbs+1:=by
 unfold qF;have b:=agl (2*l+d) (2*d);have g:=age (2*l+d) (show 2*d≠0 by omega);have j:=afL (2*l+d) (show 0<2*d by omega);generalize(2*l+d)/(2*d)=q at*
 have e:2*d*q=2*(d*q):=agE 2 d q;rw[e]at b;have c:(d*q).natAbs=d.natAbs*q.natAbs:=adt d q;have f:l.natAbs<=d.natAbs*l.natAbs:=aeQ _ (by omega);rcases ae6 (l.natAbs+1) q.natAbs with h|h
 ·exfalso;have m:=acq d.natAbs (show l.natAbs+2<=q.natAbs by omega);grind
 exact h
section
variable {f:FF} {n B:Nat}
theorem QJ (g:SymF f n) {i:Nat} (c:Int) (p:m<n):SymF (gd f i m c) n:=fun a l b o=>by
 by_cases q:a=b
 ·grind
 unfold gd;rw[g a l b o];by_cases h:a=i
 ·by_cases e:b=i
  ·omega
  simp only[h,e,if_true,if_false];rw[g m p b o];omega
 by_cases e:b=i
 ·simp only[h,e,if_true,if_false];rw[g a l m p];omega
 omega
theorem Def.add (h:Def f n B) {i:Nat} (c:Int) (b:m<i) (l:i<n):Def (gd f i m c) n B:=by
 obtain⟨e,_⟩:=lT h.sym h.ne c b l;exact⟨QJ h.sym c (by omega),fun t o=>by rw[e (t+1) (by omega)];exact h.pos t o,fun k g=>by rw[e k g];exact h.le k g⟩
theorem C3 (h:Def f n B) {i:Nat} (c:Int) (e:m<i) (r:i<n) {b:Nat} (t:b<i) (s:wP f b):wP (gd f i m c) b:=by
 have p:=h.add c e r;obtain⟨l,u,v⟩:=lT h.sym h.ne c e r;have q: ∀k,k<b->bk (gd f i m c) k b k=bk f k b k:=fun k g=>by
  grind [yX]
 refine⟨fun k g=>?_,fun o=>?_⟩
 ·rw[A7 p (by omega) g,q k g,l _ (by omega)];exact(A7 h (by omega) g).1 (s.1 k g)
 rw[JY p (by omega) o,q _ (by omega),l _ (by omega),l _ (by omega),l _ (by omega)];exact(JY h (by omega) o).1 (s.2 o)
def cF (f:FF) (i j:Nat):Int:= -(qF (lam f i j) (dd f (j+1)))
theorem QW (h:Def f n B) {i:Nat} (b:m<n):cF f i m= -(qF (bk f m i m) (dk f (m+1))):=by rw[cF,sG h.pos b,mr h.pos (by omega)]
theorem EV (h:Def f n B) {i:Nat} (c:m<i) (g:i<n) {b:Nat} (s:m<=b) (q:b<i) (t:m<b->SizF f i b):SizF (gd f i m (cF f i m)) i b:=by
 have p:=h.add (cF f i m) c g;obtain⟨l,o,r⟩:=lT h.sym h.ne (cF f i m) c g;rw[A7 p g q,l _ (by omega)];by_cases e:b=m
 ·subst e;rw[o b i b (by omega)];have:gd (bk f b) i b (cF f i b) i b=bk f b i b+cF f i b*dk f (b+1):=by
   unfold gd;grind [ca]
  rw[this,QW h (by omega)];exact WJ (h.pos b (by omega))
 grind [A7]
theorem Y4 (h:Def f n B) (F:1<=B) (Q:Jn f n B) {i:Nat} (P:Fst f (.add i m)) (g:i<n):Jn (gd f i m (cF f i m)) n B:=by
 obtain⟨b,z,X,A⟩:=P;obtain⟨g1,L,g3⟩:=lT h.sym h.ne (cF f i m) b g;have H: ∀a,a≠i->gd f i m (cF f i m) a a=f a a:=fun a o=>yX o o
 -- the new lambdas of row i
 have u: ∀M:Nat,(∀k,k<i->(bk f k i k).natAbs+2<=M)-> ∀k,k<i->(bk (gd f i m (cF f i m)) k i k).natAbs+2<=M*(B+2):=fun M v k l=>by
  have S:=v k l;have R:=v m b;have e0:M*(B+2)=M*B+2*M:=by grind
  rcases adE k m with e|e|e
  ·rw[L k i k (by omega)];have K:gd (bk f k) i m (cF f i m) i k=bk f k i k+cF f i m*bk f k m k:=by
    grind [gd]
   rw[K];have I:=afU (bk f k i k) (cF f i m*bk f k m k);rw[adt]at I;have a2:(cF f i m).natAbs<=(bk f m i m).natAbs+1:=by rw[QW h (by omega),Int.natAbs_neg];exact Kk (h.pos m (by omega))
   have J:(bk f k m k).natAbs<=B:=Kz h (by omega) e ((A m b).1 k e);have a4:=acU (show(cF f i m).natAbs<=M by omega) J;omega
  ·subst e;have hz:=EV h b g (acs k) l (fun h=>by omega);have:=Kz (h.add (cF f i k) b g) g l hz;have:B<=M*B:=aeQ _ (by omega);omega
  grind
 have c: ∀M e:Nat,1<=e->e<=i-m->M*(B+2)<=(l0 n B+2)*(B+2)^e->(∀a,a<n->a≠i->(f a a).natAbs<=cN n B)->(∀k,k<i->(bk f k i k).natAbs+2<=M)->Jn (gd f i m (cF f i m)) n B:=fun M e T x w q v=>by
  refine .inr ⟨i,g,fun a o W=>by grind,fun i' t=>C3 h _ b g t (A i' t),m,by omega,fun j' N E=>EV h b g N E (fun O=>X j' O E),fun k l=>?_⟩;refine acl (u M v k l) (acl w (acq _ (acF (by omega) x)))
 rcases Q with q|⟨p,y,q,C,s,Y,Z,V⟩
 ·refine c (l0 n B+2) 1 (by omega) (by omega) (by simp) (fun a o _=>q a o) (fun k l=>?_);have:(bk f k i k).natAbs<=l0 n B:=h.lam_le g l F (q i g);omega
 by_cases e:p=i
 ·subst e;have U:m<s:=by
   grind
  refine c ((l0 n B+2)*(B+2)^(p-s)) (p-s+1) (by omega) (by omega) (by grind) q V
 have G:(f p p).natAbs<=cN n B:=by
  rcases ae6 p i with D|D
  ·exact wz h y (A p D).1
  exact absurd ((C i (by omega)).1 m b) z
 have r: ∀a,a<n->(f a a).natAbs<=cN n B:=fun a o=>by
  grind
 refine c (l0 n B+2) 1 (by omega) (by omega) (by simp) (fun a o _=>r a o) (fun k l=>?_);have:(bk f k i k).natAbs<=l0 n B:=h.lam_le g l F (r i g);omega
theorem Df (h:Def f n B) (c:m+1<n) (o: ¬LovF f (m+1)):4*dk (mX f m) (m+1)<3*dk f (m+1)/\0<dk (mX f m) (m+1):=by
 obtain⟨e,g⟩:=Bm h.sym h.pos c;refine⟨?_,g⟩;have j: ¬3*(dk f (m+1)*dk f (m+1))<=4*(dk f m*dk f (m+2)+bk f m (m+1) m*bk f m (m+1) m):=fun l=>o ((JY h c (by omega)).2 l)
 rw[<- e]at j;have p:=h.pos m (by omega);rcases aem (4*dk (mX f m) (m+1)) (3*dk f (m+1))with b|b
 ·exact b
 exfalso;have q:=acw b (ad2 p);grind
theorem Def.swap (h:Def f n B) (c:m+1<n) (q: ¬LovF f (m+1)):Def (mX f m) n B:=by
 obtain⟨j,_⟩:=qx h.sym h.pos c;obtain⟨s,u⟩:=Df h c q;have p:=h.pos m (by omega);refine⟨fun a l b o=>h.sym _ (s7 c l) _ (s7 c o),fun t r=>?_,fun k g=>?_⟩
 ·by_cases e:t=m
  ·grind
  rw[j (t+1) (by omega) (by omega)];exact h.pos t r
 by_cases e:k=m+1
 ·subst e;have:=h.le (m+1) g;omega
 rw[j k g e];exact h.le k g
theorem U0 (h:Def f n B) (p:Jn f n B) (o:Fst f (.swp m)) (q:m+1<n):Jn (mX f m) n B:=by
 obtain⟨j,t,r⟩:=o;have c: ∀a,a<n->(f a a).natAbs<=cN n B:=by
  rcases p with c|⟨i,s,c,l,_⟩
  ·exact c
  intro a g;by_cases e:a=i
  ·subst e;rcases adE a (m+1)with b|b|b
   ·exact wz h g (r a b).1
   ·grind [wz]
   exact absurd ((l (m+1) b).2 (by omega)) j
  grind
 exact .inl fun a g=>c _ (s7 q g)
def prD (f:FF):Nat->Nat
 |0=>1
 |k+1=>prD f k*(dk f (k+1)).natAbs
theorem wu {g:FF}: ∀k,(∀t,t<k->dk g (t+1)=dk f (t+1))->prD g k=prD f k
 |0,_=>rfl
 |k+1,h=>by rw[prD,prD,wu k (fun t b=>h t (by omega)),h k (by omega)]
theorem MH (h:Def f n B): ∀k,k<=n->0<prD f k
 |0,_=>by simp[prD]
 |k+1,b=>by
  have:=h.pos k (by omega);exact afX (MH h k (by omega)) (by omega)
theorem SZ (h:Def f n B): ∀k,k<=n->prD f k<=B^k
 |0,_=>by simp[prD]
 |k+1,b=>by rw[prD,adk];exact acU (SZ h k (by omega)) (h.le (k+1) b)
theorem Hd (h:Def f n B) {m:Nat} (c:m+1<n) (j: ¬LovF f (m+1)): ∀k,m<k->k<=n->4*prD (mX f m) k<=3*prD f k
 |k+1,r,b=>by
  obtain⟨g,_⟩:=qx h.sym h.pos c;obtain⟨o,q⟩:=Df h c j;have p:=h.pos m (by omega);rw[prD,prD];by_cases e:k=m
  ·subst e;rw[wu k (fun t s=>g (t+1) (by omega) (by omega)),afl,afl 3];exact acq _ (by omega)
  have l:=Hd h c j k (by omega) (by omega);rw[g (k+1) b (by omega),<- ad1,<- ad1];exact acu _ l
end
/-! Bounds of the minors of a matrix of small entries. -/
theorem Sd {E:Nat} {r:Nat->Int} (f: ∀c,(r c).natAbs<=E) {M:Nat}: ∀(b:List Nat) (N:Nat) (F:List Nat->Int),b.length<=N->(∀l,l.length<=N->(F l).natAbs<=M)->(eE r F b).natAbs<=b.length*(E*M)
 |[],_,_,_,_=>by simp[eE]
 |c::b,N,F,m,e=>by
  rw[eE];have g:=Int.natAbs_sub_le (r c*F b) (eE r (fun l=>F (c::l)) b);have h:=Sd f b (N-1) (fun l=>F (c::l)) (by grind) (fun l n=>e (c::l) (by grind));rw[adt]at g;have j:=acU (f c) (e b (by grind));grind [Nat.add_mul]
theorem YE {E L:Nat} {f:FF} (e: ∀a b,(f a b).natAbs<=E): ∀k l,l.length<=L->(om f k l).natAbs<=(L*E)^k
 |0,l,_=>by simp[om]
 |k+1,l,c=>by
  rw[om];have:=Sd (e k) l L (om f k) c (fun l c=>YE e k l c);have g:l.length*(E*(L*E)^k)<=L*(E*(L*E)^k):=acu _ c;grind
theorem LV: ∀k,(ry k).length=k
 |0=>rfl
 |k+1=>by rw[ry,acC,LV k]
abbrev bB:Nat:=722204136308736
theorem Rp {L:Nat} (e:1<=L*n) (g: ∀a b,(c a b).natAbs<=n) {k:Nat} (h:k<=L):(dk c k).natAbs<=(L*n)^L:=
 acl (YE g k (ry k) (by grind [LV])) (acF e h)
theorem abn (e: ∀a b,(c a b).natAbs<=9) {k:Nat} (g:k<=8):(dk c k).natAbs<=bB:=by
 have h:=Rp (L:=8) (by decide) e g;omega
end
section
def chF (f:FF):Ch->Nat->Nat->Int
 | .add i j=>gd f i j (cF f i j)
 | .swp m=>mX f m
def Yk (f:FF):Ch->Nat->Nat->Int
 | .add i j=>QI i j (cF f i j)
 | .swp m=>P4 m
inductive Rch (n:Nat):(Nat->Nat->Int)->(Nat->Nat->Int)->(Nat->Nat->Int)->(Nat->Nat->Int)->Prop
 |done (f t:FF) (h:scanF f n=none):Rch n f t f t
 |step (f t h T:FF) (c:Ch) (hc:scanF f n=some c) (hr:Rch n (chF f c) (jK n t (Yk f c)) h T):Rch n f t h T
structure Fh (N B S Z:Nat):Prop where
 n8:N<=8
 b1:9<=B
 lMs: ∀n,n<N+1->lM n B+1<4294967296^Z
 eNs: ∀n,n<N+1->eN n B<4294967296^400
 pt: ¬4^S<=3^S*B^N
 sz:(Z+4)*(28*S+28)+1<=16000000
 z4:Z<=400
structure RedI (N B Z n:Nat) (f0 f t:FF) (s adds:Nat):Prop where
 dfn:Def f n B
 jn:Jn f n B
 det:dk f n=dk f0 n
 pot:4^s*prD f n<=3^s*B^N
 cnt:adds<=28*s+rankF f n
 szt: ∀a b,a<n->b<n->Sz (t a b) (1+(Z+4)*adds)
theorem bd8:Fh 8 bB 970 41:=⟨by decide,by decide,by decide+kernel,by decide+kernel,by decide+kernel,by decide,by decide⟩
theorem bd4:Fh 4 (2^192) 1860 90:=⟨by decide,by decide,by decide+kernel,by decide+kernel,by decide+kernel,by decide,by decide⟩
theorem KO (h:n<=8):Bq n<=28:=acl (lO h) (by decide)
theorem WC (K:Nat) (e: ¬4^K<=3^K*n) (s:Nat) (f:K<=s) (b:4^s<=3^s*n):False:=by
 obtain⟨r,rfl⟩: ∃r,s=K+r:=⟨s-K,by omega⟩;rw[adv,adv]at b;have c:3^K*3^r*n<=3^K*n*4^r:=by
  rw[ad1,adu (3^r),<- ad1];simp_all[acq,acE]
 exact e (Nat.le_of_mul_le_mul_right (acl b c) (adg (by omega)))
section
variable {N B S Z:Nat} {n:Nat} {f0 f t:FF} {s adds:Nat}
theorem RedI.s_le (k:Fh N B S Z) (h:RedI N B Z n f0 f t s adds):s<S:=by
 rcases ae6 s S with b|b
 ·exact b
 exfalso;have e:=MH h.dfn n (acs _);have c:4^s<=3^s*B^N:=acl (adO _ e) h.pot;exact WC S k.pt s b c
theorem RedI.adds_le (k:Fh N B S Z) (h:RedI N B Z n f0 f t s adds) (b:n<=N):adds<=28*S+28:=by
 have c:=h.s_le k;have e:=h.cnt;have g:=AE f n;have j:=KO (acl b k.n8);omega
theorem RedI.szf (k:Fh N B S Z) (h:RedI N B Z n f0 f t s adds) (j:n<=N) {a:Nat} (e:a<n) (g:m<n):Sz (f a m) 400:=by
 have c:=h.jn.ent h.dfn (acl (by decide) k.b1) e g;exact adn c (k.eNs n (by omega))
theorem RedI.szc (k:Fh N B S Z) (h:RedI N B Z n f0 f t s adds) (p:n<=N) {i:Nat} (b:i<n) (c:m<i):Sz (cF f i m) Z:=by
 rw[QW h.dfn (by omega)];have e:=Kk (l:=bk f m i m) (h.dfn.pos m (by omega));have g:=h.jn.lam h.dfn (acl (by decide) k.b1) i m b c;have o:=k.lMs n (by omega);grind [Sz]
theorem Pc {c:Ch} (h:scanF f n=some c):rankF f n=Hi c:=by grind [rankF]
theorem RedI.add (k:Fh N B S Z) (h:RedI N B Z n f0 f t s adds) (C:n<=N) {i:Nat} (w:scanF f n=some (.add i m)):RedI N B Z n f0 (gd f i m (cF f i m)) (jK n t (QI i m (cF f i m))) s (adds+1)/\rankF f n<rankF (gd f i m (cF f i m)) n:=by
 obtain⟨r,e⟩:=gY w;have e:i<n:=e;obtain⟨c,D,F,E⟩:=id r;have o:rankF f n<rankF (gd f i m (cF f i m)) n:=by
  rw[Pc w];exact WL c e (fun G g=>C3 h.dfn _ c e g (E G g)) (fun H y q=>EV h.dfn c e y q (fun z=>F H z q))
 obtain⟨p,_⟩:=lT h.dfn.sym h.dfn.ne (cF f i m) c e;have A:=h.cnt;refine⟨⟨h.dfn.add _ c e,Y4 h.dfn (acl (by decide) k.b1) h.jn r e,by rw[p n (acs _)];exact h.det,by rw[wu n (fun t J=>p (t+1) (by omega))];exact h.pot,by omega,fun a b u v=>?_⟩,o⟩;rw[Ej (by omega) (by omega) t a b v];have x:=h.szt a b u v;split
 ·have I:=(h.szc k C e c).mul (h.szt a m u (by omega));exact(Sz.add (x.mono (l:=Z+(1+(Z+4)*adds)) (by omega)) I).mono (by grind)
 rw[agN];exact x.mono (by grind)
theorem RedI.swap (k:Fh N B S Z) (h:RedI N B Z n f0 f t s adds) (y:n<=N) (w:scanF f n=some (.swp m)):RedI N B Z n f0 (mX f m) (jK n t (P4 m)) (s+1) adds:=by
 obtain⟨g,c⟩:=gY w;have c:m+1<n:=c;obtain⟨e,_,_⟩:=id g;obtain⟨u,_⟩:=qx h.dfn.sym h.dfn.pos c;have x:=h.cnt;have z:=AE f n;have A:=KO (acl y k.n8);refine⟨h.dfn.swap c e,U0 h.dfn h.jn g c,by rw[u n (acs _) (by omega)];exact h.det,?_,by omega,fun a b v j=>?_⟩
 ·have p:=Hd h.dfn c e n (by omega) (acs _);have q:=acq (4^s) p;have l:4^(s+1)*prD (mX f m) n=4^s*(4*prD (mX f m) n):=by grind
  have o:4^s*(3*prD f n)=3*(4^s*prD f n):=afl _ _ _;have r:3^(s+1)*B^N=3*(3^s*B^N):=by grind
  rw[l,r];rw[o]at q;exact acl q (acq 3 h.pot)
 rw[Ek c t a b j];exact h.szt a _ v (s7 c j)
def YA (S n:Nat) (f:FF) (s:Nat):Nat:=(S-s)*30+(29-rankF f n)
theorem RedI.mu_add (k:Fh N B S Z) (h:RedI N B Z n f0 f t s adds) (b:n<=N) {i:Nat} (c:scanF f n=some (.add i m)):YA S n (gd f i m (cF f i m)) s<YA S n f s:=by
 have e:=(h.add k b c).2;have g:=AE (gd f i m (cF f i m)) n;have l:=KO (acl b k.n8);unfold YA;omega
theorem RedI.mu_swap (k:Fh N B S Z) (h:RedI N B Z n f0 f t s adds) (c:n<=N) (b:scanF f n=some (.swp m)):YA S n (mX f m) (s+1)<YA S n f s:=by
 have e:=(h.swap k c b).s_le k;grind [YA]
theorem sT (k:Fh N B S Z) (e:n<=N): ∀m f t s adds,YA S n f s<=m->RedI N B Z n f0 f t s adds-> ∃h T,Rch n f t h T
 |0,f,t,s,adds,o,h=>by
  cases b:scanF f n with
  |none=>exact⟨f,t,.done f t b⟩
  |some c=>
   cases c with
   |add i j=>have:=h.mu_add k e b;omega
   |swp m=>have:=h.mu_swap k e b;omega
 |m+1,f,t,s,adds,o,h=>by
  cases b:scanF f n with
  |none=>exact⟨f,t,.done f t b⟩
  |some c=>
   cases c with
   |add i j=>
    have:=h.mu_add k e b;obtain⟨g,T,l⟩:=sT k e m _ _ _ _ (by omega) (h.add k e b).1;exact⟨g,T,.step f t g T _ b l⟩
   |swp q=>
    have:=h.mu_swap k e b;obtain⟨g,T,l⟩:=sT k e m _ _ _ _ (by omega) (h.swap k e b);exact⟨g,T,.step f t g T _ b l⟩
theorem RedI.red (h:RedI N B Z n f0 f t s adds) (b:1<=n) (g:dk f0 n<=10000) (e:scanF f n=none):RedR f n:=by
 refine(x9 b).1 ⟨h.dfn.sym,fun k c=>?_,?_,Kt e⟩
 ·rw[tW h.dfn.pos k c];exact h.dfn.pos k c
 have:=tW h.dfn.pos (n-1) (by omega);rw[show n-1+1=n by omega]at this;rw[this,h.det];exact g
theorem RedI.start_ (k:Fh N B S Z) (m:n<=N) (p:SymF f n) (o:xz f n) (j: ∀k,k<=n->(dk f k).natAbs<=B) (h: ∀a,a<n->(f a a).natAbs<=B) (q: ∀a b,a<n->b<n->Sz (t a b) 1):RedI N B Z n f f t 0 0:=by
 have e: ∀k,k<n->0<dk f (k+1):=fun k l=>(EA o k l).1
 have c:Def f n B:=⟨p,e,j⟩;have r:=k.b1;refine⟨c,.inl fun a g=>acl (h a g) ?_,rfl,?_,by omega,fun a b g h=>(q a b g h).mono (by omega)⟩
 ·unfold cN;exact acl (af3 B (B*B)) (adO _ (adg (by omega)))
 simp only[agX,ag8];exact acl (SZ c n (acs _)) (acF (by omega) m)
theorem RedI.start (g:1<=n) (e:n<=8) (j:SymF f n) (h:xz f n) (c: ∀a b,(f a b).natAbs<=9) (l: ∀a b,a<n->b<n->Sz (t a b) 1):RedI 8 bB 41 n f f t 0 0:=
 RedI.start_ bd8 e j h (fun k m=>abn c (by omega)) (fun a _=>acl (c a a) (by decide)) l
end
end
theorem Gy {b:World} (h:Ext w b):Keep (fun _=>False) w b:=⟨h.os,h.tape,h.output,h.size,fun k c _=>h.block k c⟩
theorem R6 {b:World} (h:Keep (fun _=>False) w b):Ext w b:=⟨h.os,h.tape,h.output,h.size,fun k c=>h.block k c (fun h=>h)⟩
theorem Mh {j:World} (h:Ext w j) (l: ∀f,b f->f<w.heap.size):Inv w (fun _=>False) b (famH 0 []) (fun _ _=>none) j:=by
 have e: ∀a,famH 0 [] a=[]:=fun a=>by grind [famH]
 refine⟨Gy h,fun a r o g=>?_,fun a r n s o q f c p g=>?_,fun a r o f c g=>?_,fun f m=>acp (l f m) h.size,fun a r o g=>?_⟩<;>(grind)
theorem nj {P:Program} {f:FuncId} {args:List TV} {r:TV} (q:callable P f=true) (h: ∀(X:Nat->Prop) (w:World) (vs:Array Value),(∀b,X b->b<w.heap.size)->vs.size=args.length->
  (∀(j:Nat) t,args[j]?=some t-> ∃v:Value,vs[j]?=some v/\t.rel (fun _ _=>none) (fun _=>[]) X w v)->Calls P f vs w fun e g=> ∃v,e= .returned v/\(∀s H Y,r.rel s H Y g v)/\Ext w g):CallC P f args ⟨[],r⟩:=
 ⟨q,fun X w vs l c p=>(h X w vs l c p).mono fun e g ⟨v,m,n,o⟩=>⟨v,m,fun _ _=>none,Mh o l,n _ _ _⟩⟩
theorem CallC.calls {P:Program} {f:FuncId} {args:List TV} {r:TV} (h:CallC P f args ⟨[],r⟩) {vs:Array Value} (c:vs.size=args.length) (p: ∀(j:Nat) t,args[j]?=some t-> ∃v:Value,vs[j]?=some v/\t.rel (fun _ _=>none) (fun _=>[]) (fun _=>False) w v):Calls P f vs w fun e g=> ∃v,e= .returned v/\(∃l H X,r.rel l H X g v)/\Ext w g:=
 (h.2 (fun _=>False) w vs (fun b h=>h.elim) c p).mono fun e g ⟨v,m,l,n,o⟩=>⟨v,m,⟨_,_,_,o⟩,R6 n.keep⟩
theorem Hn {e:Rho} (c:Bool):(TV.raw (.bool c)).rel e g b w (.bool c):=bS.raw _ rfl
theorem qZ {v:Value} (h:bS b w (.raw f) v):v=f:=by cases h;rfl
theorem EG (h:bS b w (.sl (ls fI e)) f): ∃A c,f= .slice A e.length c/\e.length<=c/\e.length<=9223372036854775807/\RdI .i64 w A e:=by
 generalize m:PV.sl (ls fI e)=x at h;cases h with
 |raw f h=>cases m
 |ptr g o F j y B r t=>cases m
 |nil a c=>
  injection m with m
  have D:e=[]:=by simp_all[ls]
  subst D;exact⟨a,c,rfl,acL _,by simp,RdI.nil _ _ _⟩
 |sl g o u cap J j y B q n s r t=>
  injection m with m
  subst m;rw[d8]at n s;refine⟨some ⟨g,o,none⟩,cap,by rw[d8],n,s,fun E=>⟨g,o,rfl,fun i x m=>?_⟩⟩;rw[ach]at m;obtain⟨z,I,rfl⟩:=acf.1 m;have p:(ls fI e)[i]?=some (fI z):=by grind [gV]
  have C:u=1:=by rw[<- q _ (acd p)];rfl
  subst C;have G:=r i _ 0 _ p rfl;have H:=qZ (t i _ 0 _ p rfl);grind
theorem uL {M:List (List Int)} (h:bS b w (.sl (ls (fR fI) M)) f): ∃A c,f= .slice A M.length c/\M.length<=c/\M.length<=9223372036854775807/\vy .i64 w A M:=by
 generalize l:PV.sl (ls (fR fI) M)=x at h;cases h with
 |raw f h=>cases l
 |ptr e m F g z B q t=>cases l
 |nil a c=>
  injection l with l
  have D:M=[]:=by simp_all[ls]
  subst D;exact⟨a,c,rfl,acL _,by simp,vy.nil _ _ _⟩
 |sl e m u cap H g z B o j s q t=>
  injection l with l
  subst l;rw[d8]at j s;refine⟨some ⟨e,m,none⟩,cap,by rw[d8],j,s,fun E=>⟨e,m,rfl,fun i r G=>?_⟩⟩;have n:(ls (fR fI) M)[i]?=some (fR fI r):=by grind [gV]
  have C:u=1:=by rw[<- o _ (acd n)];rfl
  subst C;have p:=q i _ 0 _ n rfl;have y:=EG (t i _ 0 _ n rfl);rw[afh,ac9]at p;exact⟨_,p,y⟩
/-! The program's functions. -/
theorem y5 {args:List TV} {vs:Array Value} (h: ∀(j:Nat) t,args[j]?=some t-> ∃v:Value,vs[j]?=some v/\t.rel (fun _ _=>none) (fun _=>[]) b w v) {j:Nat} {x:PV} (c:args[j]?=some (.one (.p x))): ∃v:Value,vs[j]?=some v/\bS b w x v:=h j _ c
def KI (v:Value) (a:Nat) (g:Nat->Value):Nat->Value:=fun j=>if j=0 then v else if j=1 then .int .i64 (a:Int)else g j
theorem OK (tx n:Nat) (A:Option Addr) (c:Nat) (l:List Int) (a:Nat) (g:Nat->Value) (w:World) (hn:2<=n) (hl:RdI .i8 w A l) (hb: ∀z∈l,-128<=z/\z<=127) (ll:l.length<=9223372036854775807) (ha:a<=l.length) (hT:w.rowIs tx 104 n (KI (.slice A l.length c) a g)) (hne:l≠[]-> ∀p,A=some p->p.block≠tx):
  Calls prog 61 #[.pointer (some ⟨tx,0,none⟩)] w fun e w'=>e= .returned (.int .i64 (l.getD a 0))/\w'.rowIs tx 104 n (KI (.slice A l.length c) (iS l a) g)/\w.grownBy w' (some tx):=by
 have HT:=acg hT;have HL:=acg hl;have HB:=acg hb;have HN:=acg hne;clear hT hl hb hne;have t0:w.cell? ⟨tx,0,none⟩=some (.slice A l.length c):=HT.out.cell (by omega);have t1:w.cell? ⟨tx,1,none⟩=some (.int .i64 (a:Int)):=HT.out.cell (by omega);have t2:w.frozen? ⟨tx,1,none⟩=false:=HT.out.frozen 1;by_cases hlt:a<l.length
 ·obtain⟨z,hz⟩:=getElem?_of_lt hlt;obtain⟨b,off,rfl,hc⟩:=HL.out.at_ hz;have hbt:b≠tx:=HN.out (by grind) _ rfl;have hzb:=HB.out z (acd hz);have hz1:=hzb.1;have hz2:=hzb.2;have HZ:Hid (l.getD a 0=z):=acg (by grind);have HNx:Hid (iS l a=a+1):=acg (if_pos hlt);clear hz hzb
  go_enter func61,ntmps61
  go_wp2_with fail
  go_quiet (fail)
  go_wp2_with fail
  have hrow:=((qt HT.out nq).set 1 (.int .i64 ((a:Int)+1))).congr (g:=KI (.slice (some ⟨b,off,none⟩) l.length c) (a+1) g) (fun j hj=>by
   grind [KI])
  have HROW:=acg hrow;have HG:=acg (DV (gH ((Ext.refl w).drewN nq) tx) 1 (.int .i64 ((a:Int)+1)));have s0:((w.drewN nq).setCell ⟨tx,1,none⟩ (.int .i64 ((a:Int)+1))).cell? ⟨tx,0,none⟩=some (.slice (some ⟨b,off,none⟩) l.length c):=HROW.out.cell (i:=0) (by omega);have s1:((w.drewN nq).setCell ⟨tx,1,none⟩ (.int .i64 ((a:Int)+1))).cell? ⟨tx,1,none⟩=some (.int .i64 ((a:Int)+1)):=by
   have:=HROW.out.cell (i:=1) (by omega);grind [KI]
  have s2:((w.drewN nq).setCell ⟨tx,1,none⟩ (.int .i64 ((a:Int)+1))).cell? ⟨b,off+a,none⟩=some (.int .i8 z):=qO HG.out hc hbt;have a1:IntKind.i64.wrap ((a:Int)+1-1)=(a:Int):=by grind [IntWalk.i64_in]
  have a2:(a:Int)<(l.length:Int):=by omega
  clear t0 t1 t2 hc hrow;generalize(w.drewN nq).setCell ⟨tx,1,none⟩ (.int .i64 ((a:Int)+1))=w3 at*
  go_quiet (fail)
  go_wp2_with fail
  go_ret
  rw[HZ.out,HNx.out];exact⟨rfl,qt HROW.out _,kv HG.out (gH ((Ext.refl _).drewN _) tx)⟩
 go_enter func61,ntmps61
 have HZ:Hid (l.getD a 0=0):=acg (by grind);have HNx:Hid (iS l a=a):=acg (if_neg hlt)
 go_wp2_with fail
 go_quiet (fail)
 go_wp2_with fail
 go_ret
 rw[HZ.out,HNx.out];exact⟨rfl,qt HT.out _,gH ((Ext.refl _).drewN _) tx⟩
def f8 (z:Int):List PV:=[.raw (.int .i8 z)]
abbrev Pr (L:List Int) (a:Nat):List PV:=[.sl (ls f8 L),.raw (.int .i64 (a:Int))]
abbrev dC (b:Nat):TV:= .raw (.pointer (some ⟨b,0,none⟩))
def I8 (L:List Int):Prop:= ∀z∈L,-128<=z/\z<=127
theorem I8.getD (h:I8 e) (a:Nat): -128<=e.getD a 0/\e.getD a 0<=127:=by
 rw[acm];cases b:e[a]? with
 |none=>simp
 |some z=>exact h z (acd b)
theorem WU (h:bS b w (.sl (ls f8 e)) f): ∃A c,f= .slice A e.length c/\e.length<=9223372036854775807/\RdI .i8 w A e/\(e≠[]-> ∀p,A=some p-> ¬b p.block):=by
 generalize m:PV.sl (ls f8 e)=x at h;cases h with
 |raw f h=>cases m
 |ptr g n G j B C s u=>cases m
 |nil a c=>
  injection m with m
  have E:e=[]:=by simp_all[ls]
  subst E;exact⟨a,c,rfl,by simp,RdI.nil _ _ _,fun h=>absurd rfl h⟩
 |sl g n y cap L j B C r o t s u=>
  injection m with m
  subst m;rw[d8]at o t;refine⟨some ⟨g,n,none⟩,cap,by rw[d8],t,fun F=>⟨g,n,rfl,fun i x m=>?_⟩,fun _ p J=>by grind⟩;rw[ach]at m;obtain⟨z,K,rfl⟩:=acf.1 m;have q:(ls f8 e)[i]?=some (f8 z):=by grind [gV]
  have D:y=1:=by rw[<- r _ (acd q)];rfl
  subst D;have H:=s i _ 0 _ q rfl;have I:=qZ (u i _ 0 _ q rfl);grind
theorem Qe (b:Nat) (L:List Int) (a:Nat) (U:I8 L) (W:a<=L.length):CallT prog b 104 61 [dC b] (Pr L a) ⟨[],.raw (.int .i64 (L.getD a 0))⟩ (Pr L (iS L a)):=by
 refine⟨by kernel_rfl,fun X w vs V B s aa l=>?_⟩;obtain⟨cells,c,P,Q,R,S,T,I⟩:=s;obtain⟨v0,e0,r0⟩:=l 0 _ rfl;have H:v0= .pointer (some ⟨b,0,none⟩):=qZ r0;subst H;obtain rfl:vs= #[.pointer (some ⟨b,0,none⟩)]:=by
  grind
 obtain⟨v,c0,_,O⟩:=I 0 _ rfl;obtain⟨u,c1,_,r2⟩:=I 1 _ rfl;have M:=qZ r2;subst M;obtain⟨A,cap,rfl,hl,F,Y⟩:=WU O;have G:cells.size=c*2:=Q;have z:w.rowIs b 104 (c*2) (KI (.slice A L.length cap) a fun j=>(cells[j]?).getD undef):=by
  refine⟨cells,P,G,fun i hi=>?_⟩;grind [KI]
 have q:L≠[]-> ∀p,A=some p->p.block≠b:=fun y p K Z=>Y y p K (by rw[Z];exact B)
 refine(OK b (c*2) A cap L a _ w (by omega) F U hl W z q).mono fun e w' ⟨q1,⟨f,q2,q3,N⟩,n⟩=>?_
 have t: ∀k,k<w.heap.size->k≠b->w'.heap[k]?=w.heap[k]?:=fun k D y=>n.block k D (by grind)
 have C: ∀j,Xo X (fun _ _=>none) (famH 0 []) j->X j:=fun j m=>by
  rcases m with m|⟨_,_,_,_,_,g⟩
  ·exact m
  cases g
 refine⟨_,q1,fun _ _=>none,?_,bS.raw _ rfl,f,c,q2,q3,R,S,T,fun j x h=>?_⟩
 ·have e: ∀a,famH 0 [] a=[]:=fun a=>by grind [famH]
  refine⟨⟨n.os,n.tape,n.output,n.size,fun k D J=>t k D J⟩,fun a r o E=>?_,fun a r a' r' o o' b c c' E=>?_,fun a r o b c E=>?_,fun j m=>acp (V j m) n.size,fun a r o E=>?_⟩<;>(grind)
 match j,h with
 |0,h=>
  have h:x= .sl (ls f8 L):=by grind
  subst h;refine⟨.slice A L.length cap,N 0 (by omega),rfl,O.later (fun j _ m=>C j m) n.size fun p u K J M=>?_⟩;grind [gE]
 |1,h=>
  have h:x= .raw (.int .i64 (iS L a:Nat)):=by grind
  subst h;exact⟨_,N 1 (by omega),rfl,bS.raw _ rfl⟩
 |j+2,h=>simp at h
def pA (L:List Int) (a n:Nat):Nat:=((L.getD a 0)%256).toNat%n
theorem oq {n:Nat} (L:List Int) (a:Nat) (h:0<n):pA L a n<n:=acM _ h
theorem NJ (L:List Int) (a n:Nat):Int.tmod (L.getD a 0%256) (n:Int)=(pA L a n:Int):=by
 grind [pA]
theorem aa5 (x:Int):IntKind.u8.wrap x=x%256:=by rfl
theorem wq {a:Nat} (h:a<=e.length):iS e a<=e.length:=by grind [iS]
theorem Do (b:Nat) (L:List Int) (a n:Nat) (g:I8 L) (h:a<=L.length) (j:0<n) (l:n<=100):CallT prog b 104 82 [dC b,.raw (.int .i64 (n:Int))] (Pr L a) ⟨[],.raw (.int .i64 (pA L a n:Int))⟩ (Pr L (iS L a)):=by
 have c:=Qe b L a g h;have e:=NJ L a n;have f:=aa5 (L.getD a 0);refine lU func82 rfl (by kernel_rfl) ?_;rw[ntmps82];refine I3 @dC.eq_1 (k:=?_);refine vS 1 c [] [] (by kernel_rfl) (by rfl) (by rfl) fun _ K=>?_;simp(disch:=omega) only[kd,List.map,dC,Nat.reduceAdd,f,aL,e];apply K
 (refine n7 ⟨.inr rfl,rfl,b8 rfl ?_ rfl⟩;simp(disch:=omega) only[kd,results82])
section
def MO (r:List Int):OObj:=⟨2,1,lc fI r⟩
abbrev kI (d n c i:Nat) (f:FF):List OObj:=⟨35,1,l9 d (ae i c)++ae (n-i) xJ⟩::(mat i c f).map MO
abbrev mA (d n c:Nat) (f:FF):List OObj:=⟨35,1,l9 d (ae n c)⟩::(mat n c f).map MO
theorem JT (d n c:Nat) (f:FF):kI d n c n f=mA d n c f:=by simp
theorem qa {i n:Nat} (d c:Nat) (h:i<=n):(l9 d (ae i c)++ae (n-i) xJ).length=n:=by grind [dE]
theorem zV {i k n:Nat} (d c:Nat) (h:k<i):(l9 d (ae i c)++ae (n-i) xJ)[k]?=some [.sl d (k+1) 0 c]:=by
 grind [dE,cf]
theorem D2 {i n:Nat} (d c:Nat) (h:i<n):(l9 d (ae i c)++ae (n-i) xJ)[i]?=some xJ:=by
 grind [dE]
theorem ff {n i:Nat} (c:Nat) (f:FF) (h:i<n):((mat n c f).map MO)[i]?=some ⟨2,1,lc fI (aN c (f i))⟩:=by
 rw[ach,bD _ _ h];rfl
theorem jr {n i j:Nat} (c:Nat) (f:FF) (v:Int):((mat n c f).map MO).set i ⟨2,1,(lc fI (aN c (f i))).set j [.p (.raw (.int .i64 v))]⟩=(mat n c (upd f i j v)).map MO:=by
 have e:(⟨2,1,(lc fI (aN c (f i))).set j [.p (.raw (.int .i64 v))]⟩:OObj)=MO (aN c fun b=>if b=j then v else f i b):=by
  rw[<- nL,MO,<- wj];rfl
 rw[e,<- agT,Mu];rfl
theorem iQ {g:FF} (h: ∀i j,i<n->j<m->c i j=g i j):(mat n m c).map MO=(mat n m g).map MO:=by rw[gI h]
theorem xZ {i n c:Nat} (d:Nat) (f:FF) (l:i<n) (e: ∀j,j<c->f i j=0):
  (⟨35,1,(l9 d (ae i c)++ae (n-i) xJ).set i [.sl d (i+1) 0 c]⟩::((mat i c f).map MO++[⟨2,1,ae c [.raw (.int .i64 0)]⟩]):List OObj)=kI d n c (i+1) f:=by
 have g:(l9 d (ae i c)++ae (n-i) xJ).set i [.sl d (i+1) 0 c]=l9 d (ae (i+1) c)++ae (n-(i+1)) xJ:=by
  rw[adV _ _ (by simp[dE]),dE,acX,aeq,aeI (n:=i),vd,acX,acI]
  congr 1
  rw[show n-i=n-(i+1)+1 by omega,aeL];rfl
 have h:(⟨2,1,ae c [.raw (.int .i64 0)]⟩:OObj)=MO (aN c (f i)):=by
  rw[MO]
  congr 1
  apply acz;intro j;rw[ac5,D8];by_cases b:j<c
  ·rw[if_pos b,aB _ b,e j b];rfl
  grind [aD]
 grind [GX]
theorem eh (d e n c:Nat) (f:FF):(mA d n c f).map (renO e)=mA e n c f:=by
 grind [renO,MW,List.map_congr_left,MO,gT]
theorem gu {d n c:Nat} {f:FF} (h:g d=mA d n c f):xG g d:=fun r o b e j x m=>by
 rw[h]at b;cases r with
 |succ r=>
  rw[adY,ach]at b;obtain⟨l,p,rfl⟩:=acf.1 b;exact .inl (bL _ _ l e j x m)
 |zero=>
  grind [List.mem_iff_getElem?,dE,cf,MO,bL,bD]
theorem xF {H:OH} {d n c:Nat} {f:FF} (h:H d=mA d n c f):fk H d (.one (.sl d 0 0 n))=cw (mat n c f):=by
 have e:((l9 d (ae n c)).map (List.map (po H d)))=ls (fR fI) (mat n c f):=by
  apply acz;intro i;rw[ach,gV];by_cases b:i<n
  ·rw[cf d c b,bD _ _ b];simp only[adB,acA,acT,po,h,adY,ff _ _ b,fR,iK,D7,qP];grind [aD]
  grind [dE,aU]
 grind [fk,dP,dE]
theorem VN {H:OH} {d n c:Nat} {f:FF} (h:H d=mA d n c f):dP H d (.sl d 0 0 n)= .p (.sl (ls (fR fI) (mat n c f))):=TV.one.inj (xF h)
abbrev ZY (k:Nat) (b:Bool):TV:= .tup [(false,[.sl 0 0 0 k]),(false,[.p (.raw (.bool b))])]
theorem aas {f:Func} {d k:Nat} {b:Bool} {s:AS} (j:s.H d=mA d k n c) (e:rA prog s f.results.toList=some (.tup [(false,[.sl d 0 0 k]),(false,[.p (.raw (.bool b))])])) (h:d<=4999):
  ∃g,bJ s g/\nd prog f ⟨mA 0 k n c,ZY k b⟩ g:=
 ⟨s,bJ.refl s,_,d,e,A4 (by simp[selfTV,bH]) h,by rw[j,eh],rfl⟩
section
variable {P:Program} {fu:FuncId} {args:List TV} {n c:Nat} {g:FF}
theorem CallC.fzI (h:CallC P fu args ⟨mA 0 n c g,.one (.sl 0 0 0 n)⟩):CallC P fu args ⟨[],cw (mat n c g)⟩:=
 h.weak ((bF 0 (gu (d:=0) (n:=n) (c:=c) (f:=g) rfl)).trans (aj (tm:=[cw (mat n c g)]) (l:=[(0,[])]) ⟨rfl,trivial⟩ (by
  simp[wk];exact(xF (H:=famH 0 (mA 0 n c g)) (d:=0) (n:=n) (c:=c) (f:=g) rfl).symm)))
theorem CallC.fzT {b:List (Bool×List AV)} (h:CallC P fu args ⟨mA 0 n c g,.tup ((false,[.sl 0 0 0 n])::b)⟩) (m: ∀t∈b,∀x∈t.2,isPure x=true):
  CallC P fu args ⟨[],.tup ((false,[.p (.sl (ls (fR fI) (mat n c g)))])::b)⟩:=by
 refine h.weak ((bF 0 (gu (d:=0) (n:=n) (c:=c) (f:=g) rfl)).trans (aj (tm:=[.tup ((false,[.p (.sl (ls (fR fI) (mat n c g)))])::b)]) (l:=[(0,[])]) ⟨rfl,trivial⟩ ?_));have q:=VN (H:=famH 0 (mA 0 n c g)) (d:=0) (n:=n) (c:=c) (f:=g) rfl;have o: ∀x,isPure x=true->dP (famH 0 (mA 0 n c g)) 0 x=x/\Es [0] x=true:=fun x e=>by cases x<;>first|exact⟨rfl,rfl⟩|cases e
 have r:b.map (fun t=>(t.1,t.2.map (dP (famH 0 (mA 0 n c g)) 0)))=b:=by
  refine(acH fun t j=>?_).trans (adL b);show(t.1,t.2.map _)=t;rw[(acH fun x e=>(o x (m t j x e)).1).trans (adL t.2)]
 refine⟨.inr ⟨?_,?_⟩,trivial⟩
 ·grind [fk]
 show(List.all _ _)=true;simp only[List.all_cons,List.all_nil,agC,acr,acN];exact⟨rfl,fun t j x e=>(o x (m t j x e)).2⟩
end
def mW (L:List Int) (a:Nat):Nat->Nat
 |0=>a
 |i+1=>iS L (mW L a i)
theorem DC {L:List Int} {a:Nat} (h:a<=L.length): ∀i,mW L a i<=L.length
 |0=>h
 |i+1=>wq (DC h i)
def ja (L:List Int) (a b:Nat):Nat->Nat->Int:=fun i j=>if i=j then 1+(pA L (mW L a i) b:Int)else 0
def PZ (L:List Int) (a b i:Nat):Nat->Nat->Int:=fun x y=>if x<i then ja L a b x y else 0
theorem Rj (L:List Int) (a b i x y:Nat):upd (PZ L a b i) i i (1+(pA L (mW L a i) b:Int)) x y=PZ L a b (i+1) x y:=by
 unfold upd PZ ja;by_cases c:x=i
 ·subst c;grind
 have:x<i+1↔x<i:=by omega
 simp_all
theorem oC (b:Nat) (L:List Int) (a n f:Nat) (r:I8 L) (s:a<=L.length) (C:n<=8) (h:0<f) (p:f<=100):
  CallT prog b 104 83 [dC b,.raw (.int .i64 (n:Int)),.raw (.int .i64 (f:Int))] (Pr L a) ⟨mA 0 n n (ja L a f),.one (.sl 0 0 0 n)⟩ (Pr L (mW L a n)):=by
 refine lU func83 rfl (by kernel_rfl) ?_;rw[ntmps83];refine I3 @dC.eq_1 (k:=dy (k:=cd (dy (k:=?_))));refine lR (G:=fY n) (fun g=>⟨(dC b::rN n::rN f::j4 (.one (.sl 10 0 0 n)::j4 (.raw (.int .i64 (n:Int))::rN g.i::j16 (jk::jk::jk::[])))),Hm [(10,kI 10 n n g.i (PZ L a f g.i))]⟩) (fun g=>Pr L (mW L a g.i)) (fun g=>n-g.i) ⟨0,by omega⟩ ?_ rfl ?_
 ·refine aj ⟨?_,trivial⟩ ?_
  ·rfl
  simp[wk]
 rintro⟨i,u⟩;simp only;by_cases o:i<n
 ·have q:=Do b L (mW L a i) f r (DC s i) h p;have t:=oq (n:=f) L (mW L a i) h;have v:=D2 (i:=i) (n:=n) 10 n o;have D:=qa (i:=i) (n:=n) 10 n u;have w:=aU i n (PZ L a f i);have x:=xZ (i:=i) (n:=n) (c:=n) 10 (PZ L a f i) o (fun j B=>by grind [PZ]);have y:=zV (i:=i+1) (k:=i) (n:=n) 10 n (by omega);have E:=qa (i:=i+1) (n:=n) 10 n (by omega);have z:=ff (n:=i+1) n (PZ L a f i) (i:=i) (by omega);have A:=aB (PZ L a f i i) o;refine mm @dC.eq_1 (k:=vR rfl (cd (dx (dy (k:=mm (aC v (aC @acX (aC @aeu (aC w x)))) (k:=?_))))));refine eH.weak (aj (tm:=(dC b::rN n::rN f::j4 (.one (.sl 10 0 0 n)::rN i::jk::jk::jk::rN n::rN i::j16 (jk::jk::jk::[])))) (l:=[(10,kI 10 n n (i+1) (PZ L a f i))]) ⟨?_,trivial⟩ (by simp[wk])) ?_
  ·rfl
  refine lS cu 7 q [] [] (by kernel_rfl) (by kernel_rfl) (by rfl) (by rfl) fun _ K=>?_;simp(disch:=omega) only[kd,dC,Nat.reduceAdd,y,aL,z,A,jr];apply K
  show eH _ _ _ _ _ _ _;refine xB (k:=?_);refine⟨⟨i+1,by omega⟩,by grind,aj ⟨?_,trivial⟩ ?_,rfl⟩
  ·show _::_=_::_;grind [iQ,Rj]
  simp[wk]
 have m:i=n:=by omega
 subst m;refine mm @dC.eq_1 (k:=vQ rfl ?_);show eH _ _ _ _ _ _ _;have e:kI 10 i i i (PZ L a f i)=mA 10 i i (ja L a f):=by
  grind [iQ,PZ]
 rw[e];refine dy (k:=?_);refine n7 ⟨.inr rfl,rfl,_,bJ.refl _,?_⟩;refine⟨.one (.sl 10 0 0 i),10,?_,rfl,?_,rfl⟩
 ·simp(disch:=omega) only[kd,results83]
 grind [eh]
end
end Go.Proofs.YtalmoejhjceflaaGreat
