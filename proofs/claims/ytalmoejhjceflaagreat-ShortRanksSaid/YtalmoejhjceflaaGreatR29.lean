/-
  Part 30 of a proof (walks and plain facts).
-/
import Derived.Test.YtalmoejhjceflaaGreatR28
set_option linter.all false
set_option maxRecDepth 100000
set_option maxHeartbeats 64000000
open List renaming replicate → ae
namespace Go.Proofs.YtalmoejhjceflaaGreat
open Go.RowKit Go.Proofs.Tryz
variable {n m:Nat} {w:World} {b:Nat->Prop} {c:List Int} {e:Value} {f:FF} {g:OH}
section
theorem TA {l d:Int} (f:0<d):2*((l+ -(qF l d)*d).natAbs:Int)<=d:=by
 unfold qF;have b:=adT (2*l+d) (2*d);have c:=adR (2*l+d) (show 2*d≠0 by omega);have e:=adl (2*l+d) (show 0<2*d by omega);grind
theorem GZ {l d:Int} (n:0<d):(qF l d).natAbs<=l.natAbs+1:=by
 unfold qF;have b:=adT (2*l+d) (2*d);have g:=adR (2*l+d) (show 2*d≠0 by omega);have j:=adl (2*l+d) (show 0<2*d by omega);generalize(2*l+d)/(2*d)=q at*
 have e:2*d*q=2*(d*q):=ac9 2 d q;rw[e]at b;have c:(d*q).natAbs=d.natAbs*q.natAbs:=abk d q;have f:l.natAbs<=d.natAbs*l.natAbs:=acC _ (by omega);rcases acQ (l.natAbs+1) q.natAbs with h|h
 ·exfalso;have m:=aas d.natAbs (show l.natAbs+2<=q.natAbs by omega);grind
 exact h
section
variable {f:FF} {n B:Nat}
theorem Np (g:SymF f n) {i:Nat} (c:Int) (p:m<n):SymF (eQ f i m c) n:=fun a l b o=>by
 by_cases q:a=b
 ·grind
 unfold eQ;rw[g a l b o];by_cases h:a=i
 ·by_cases e:b=i
  ·omega
  simp only[h,e,if_true,if_false];rw[g m p b o];omega
 by_cases e:b=i
 ·simp only[h,e,if_true,if_false];rw[g a l m p];omega
 omega
theorem Def.add (h:Def f n B) {i:Nat} (c:Int) (b:m<i) (l:i<n):Def (eQ f i m c) n B:=by
 obtain⟨e,_⟩:=j2 h.sym h.ne c b l;exact⟨Np h.sym c (by omega),fun t o=>by rw[e (t+1) (by omega)];exact h.pos t o,fun k g=>by rw[e k g];exact h.le k g⟩
theorem zX (h:Def f n B) {i:Nat} (c:Int) (e:m<i) (r:i<n) {b:Nat} (t:b<i) (s:tp f b):tp (eQ f i m c) b:=by
 have p:=h.add c e r;obtain⟨l,u,v⟩:=j2 h.sym h.ne c e r;have q: ∀k,k<b->bk (eQ f i m c) k b k=bk f k b k:=fun k g=>by
  grind [vJ]
 refine⟨fun k g=>?_,fun o=>?_⟩
 ·rw[xR p (by omega) g,q k g,l _ (by omega)];exact(xR h (by omega) g).1 (s.1 k g)
 rw[GF p (by omega) o,q _ (by omega),l _ (by omega),l _ (by omega),l _ (by omega)];exact(GF h (by omega) o).1 (s.2 o)
def cF (f:FF) (i j:Nat):Int:= -(qF (lam f i j) (dd f (j+1)))
theorem NB (h:Def f n B) {i:Nat} (b:m<n):cF f i m= -(qF (bk f m i m) (dk f (m+1))):=by rw[cF,pC h.pos b,kE h.pos (by omega)]
theorem B4 (h:Def f n B) {i:Nat} (c:m<i) (g:i<n) {b:Nat} (s:m<=b) (q:b<i) (t:m<b->SizF f i b):SizF (eQ f i m (cF f i m)) i b:=by
 have p:=h.add (cF f i m) c g;obtain⟨l,o,r⟩:=j2 h.sym h.ne (cF f i m) c g;rw[xR p g q,l _ (by omega)];by_cases e:b=m
 ·subst e;rw[o b i b (by omega)];have:eQ (bk f b) i b (cF f i b) i b=bk f b i b+cF f i b*dk f (b+1):=by
   unfold eQ;grind [cd]
  rw[this,NB h (by omega)];exact TA (h.pos b (by omega))
 grind [xR]
theorem VF (h:Def f n B) (F:1<=B) (Q:Jn f n B) {i:Nat} (P:Zh f (.add i m)) (g:i<n):Jn (eQ f i m (cF f i m)) n B:=by
 obtain⟨b,z,X,A⟩:=P;obtain⟨g1,L,g3⟩:=j2 h.sym h.ne (cF f i m) b g;have H: ∀a,a≠i->eQ f i m (cF f i m) a a=f a a:=fun a o=>vJ o o
 -- the new lambdas of row i
 have u: ∀M:Nat,(∀k,k<i->(bk f k i k).natAbs+2<=M)-> ∀k,k<i->(bk (eQ f i m (cF f i m)) k i k).natAbs+2<=M*(B+2):=fun M v k l=>by
  have S:=v k l;have R:=v m b;have e0:M*(B+2)=M*B+2*M:=by grind
  rcases aby k m with e|e|e
  ·rw[L k i k (by omega)];have K:eQ (bk f k) i m (cF f i m) i k=bk f k i k+cF f i m*bk f k m k:=by
    grind [eQ]
   rw[K];have I:=adt (bk f k i k) (cF f i m*bk f k m k);rw[abk]at I;have a2:(cF f i m).natAbs<=(bk f m i m).natAbs+1:=by rw[NB h (by omega),Int.natAbs_neg];exact GZ (h.pos m (by omega))
   have J:(bk f k m k).natAbs<=B:=Hd h (by omega) e ((A m b).1 k e);have a4:=aaT (show(cF f i m).natAbs<=M by omega) J;omega
  ·subst e;have hz:=B4 h b g (aar k) l (fun h=>by omega);have:=Hd (h.add (cF f i k) b g) g l hz;have:B<=M*B:=acC _ (by omega);omega
  grind
 have c: ∀M e:Nat,1<=e->e<=i-m->M*(B+2)<=(l0 n B+2)*(B+2)^e->(∀a,a<n->a≠i->(f a a).natAbs<=cN n B)->(∀k,k<i->(bk f k i k).natAbs+2<=M)->Jn (eQ f i m (cF f i m)) n B:=fun M e T x w q v=>by
  refine .inr ⟨i,g,fun a o W=>by grind,fun i' t=>zX h _ b g t (A i' t),m,by omega,fun j' N E=>B4 h b g N E (fun O=>X j' O E),fun k l=>?_⟩;refine aap (u M v k l) (aap w (aas _ (aaJ (by omega) x)))
 rcases Q with q|⟨p,y,q,C,s,Y,Z,V⟩
 ·refine c (l0 n B+2) 1 (by omega) (by omega) (by simp) (fun a o _=>q a o) (fun k l=>?_);have:(bk f k i k).natAbs<=l0 n B:=h.lam_le g l F (q i g);omega
 by_cases e:p=i
 ·subst e;have U:m<s:=by
   grind
  refine c ((l0 n B+2)*(B+2)^(p-s)) (p-s+1) (by omega) (by omega) (by grind) q V
 have G:(f p p).natAbs<=cN n B:=by
  rcases acQ p i with D|D
  ·exact s9 h y (A p D).1
  exact absurd ((C i (by omega)).1 m b) z
 have r: ∀a,a<n->(f a a).natAbs<=cN n B:=fun a o=>by
  grind
 refine c (l0 n B+2) 1 (by omega) (by omega) (by simp) (fun a o _=>r a o) (fun k l=>?_);have:(bk f k i k).natAbs<=l0 n B:=h.lam_le g l F (r i g);omega
theorem Al (h:Def f n B) (c:m+1<n) (o: ¬LovF f (m+1)):4*dk (lj f m) (m+1)<3*dk f (m+1)/\0<dk (lj f m) (m+1):=by
 obtain⟨e,g⟩:=x4 h.sym h.pos c;refine⟨?_,g⟩;have j: ¬3*(dk f (m+1)*dk f (m+1))<=4*(dk f m*dk f (m+2)+bk f m (m+1) m*bk f m (m+1) m):=fun l=>o ((GF h c (by omega)).2 l)
 rw[<- e]at j;have p:=h.pos m (by omega);rcases acp (4*dk (lj f m) (m+1)) (3*dk f (m+1))with b|b
 ·exact b
 exfalso;have q:=aaH b (abT p);grind
theorem Def.swap (h:Def f n B) (c:m+1<n) (q: ¬LovF f (m+1)):Def (lj f m) n B:=by
 obtain⟨j,_⟩:=nZ h.sym h.pos c;obtain⟨s,u⟩:=Al h c q;have p:=h.pos m (by omega);refine⟨fun a l b o=>h.sym _ (pY c l) _ (pY c o),fun t r=>?_,fun k g=>?_⟩
 ·by_cases e:t=m
  ·grind
  rw[j (t+1) (by omega) (by omega)];exact h.pos t r
 by_cases e:k=m+1
 ·subst e;have:=h.le (m+1) g;omega
 rw[j k g e];exact h.le k g
theorem RI (h:Def f n B) (p:Jn f n B) (o:Zh f (.swp m)) (q:m+1<n):Jn (lj f m) n B:=by
 obtain⟨j,t,r⟩:=o;have c: ∀a,a<n->(f a a).natAbs<=cN n B:=by
  rcases p with c|⟨i,s,c,l,_⟩
  ·exact c
  intro a g;by_cases e:a=i
  ·subst e;rcases aby a (m+1)with b|b|b
   ·exact s9 h g (r a b).1
   ·grind [s9]
   exact absurd ((l (m+1) b).2 (by omega)) j
  grind
 exact .inl fun a g=>c _ (pY q g)
def prD (f:FF):Nat->Nat
 |0=>1
 |k+1=>prD f k*(dk f (k+1)).natAbs
theorem sX {g:FF}: ∀k,(∀t,t<k->dk g (t+1)=dk f (t+1))->prD g k=prD f k
 |0,_=>rfl
 |k+1,h=>by rw[prD,prD,sX k (fun t b=>h t (by omega)),h k (by omega)]
theorem Jt (h:Def f n B): ∀k,k<=n->0<prD f k
 |0,_=>by simp[prD]
 |k+1,b=>by
  have:=h.pos k (by omega);exact adA (Jt h k (by omega)) (by omega)
theorem Px (h:Def f n B): ∀k,k<=n->prD f k<=B^k
 |0,_=>by simp[prD]
 |k+1,b=>by rw[prD,abl];exact aaT (Px h k (by omega)) (h.le (k+1) b)
theorem D6 (h:Def f n B) {m:Nat} (c:m+1<n) (j: ¬LovF f (m+1)): ∀k,m<k->k<=n->4*prD (lj f m) k<=3*prD f k
 |k+1,r,b=>by
  obtain⟨g,_⟩:=nZ h.sym h.pos c;obtain⟨o,q⟩:=Al h c j;have p:=h.pos m (by omega);rw[prD,prD];by_cases e:k=m
  ·subst e;rw[sX k (fun t s=>g (t+1) (by omega) (by omega)),ady,ady 3];exact aas _ (by omega)
  have l:=D6 h c j k (by omega) (by omega);rw[g (k+1) b (by omega),<- ab8,<- ab8];exact aav _ l
end
/-! Bounds of the minors of a matrix of small entries. -/
theorem OF {E:Nat} {r:Nat->Int} (f: ∀c,(r c).natAbs<=E) {M:Nat}: ∀(b:List Nat) (N:Nat) (F:List Nat->Int),b.length<=N->(∀l,l.length<=N->(F l).natAbs<=M)->(dK r F b).natAbs<=b.length*(E*M)
 |[],_,_,_,_=>by simp[dK]
 |c::b,N,F,m,e=>by
  rw[dK];have g:=Int.natAbs_sub_le (r c*F b) (dK r (fun l=>F (c::l)) b);have h:=OF f b (N-1) (fun l=>F (c::l)) (by grind) (fun l n=>e (c::l) (by grind));rw[abk]at g;have j:=aaT (f c) (e b (by grind));grind [Nat.add_mul]
theorem Vd {E L:Nat} {f:FF} (e: ∀a b,(f a b).natAbs<=E): ∀k l,l.length<=L->(om f k l).natAbs<=(L*E)^k
 |0,l,_=>by simp[om]
 |k+1,l,c=>by
  rw[om];have:=OF (e k) l L (om f k) c (fun l c=>Vd e k l c);have g:l.length*(E*(L*E)^k)<=L*(E*(L*E)^k):=aav _ c;grind
theorem IJ: ∀k,(lg k).length=k
 |0=>rfl
 |k+1=>by rw[lg,aaP,IJ k]
abbrev bB:Nat:=722204136308736
theorem Wx {L:Nat} (c:1<=L*n) (e: ∀a b,(f a b).natAbs<=n) {k:Nat} (g:k<=L):(dk f k).natAbs<=(L*n)^L:=
 aap (Vd e k (lg k) (by grind [IJ])) (aaJ c g)
theorem YI (c: ∀a b,(f a b).natAbs<=9) {k:Nat} (e:k<=8):(dk f k).natAbs<=bB:=by
 have g:=Wx (L:=8) (by decide) c e;omega
end
section
def ZK (f:FF):Ch->Nat->Nat->Int
 | .add i j=>eQ f i j (cF f i j)
 | .swp m=>lj f m
def UX (f:FF):Ch->Nat->Nat->Int
 | .add i j=>Rt i j (cF f i j)
 | .swp m=>Qs m
inductive Rch (n:Nat):(Nat->Nat->Int)->(Nat->Nat->Int)->(Nat->Nat->Int)->(Nat->Nat->Int)->Prop
 |done (f t:FF) (h:scanF f n=none):Rch n f t f t
 |step (f t h T:FF) (c:Ch) (hc:scanF f n=some c) (hr:Rch n (ZK f c) (js n t (UX f c)) h T):Rch n f t h T
structure Fc (N B S Z:Nat):Prop where
 n8:N<=8
 b1:9<=B
 lMs: ∀n,n<N+1->lM n B+1<4294967296^Z
 eNs: ∀n,n<N+1->eN n B<4294967296^400
 pt: ¬4^S<=3^S*B^N
 sz:(Z+4)*(28*S+28)+1<=16000000
 z4:Z<=400
structure RedI (N B Z n:Nat) (f0 f t:FF) (s adds:Nat):Prop where
 dfn:Def f n B
 jn:Jn f n B
 det:dk f n=dk f0 n
 pot:4^s*prD f n<=3^s*B^N
 cnt:adds<=28*s+rankF f n
 szt: ∀a b,a<n->b<n->Sz (t a b) (1+(Z+4)*adds)
theorem ZI:Fc 8 bB 970 41:=⟨by decide,by decide,by decide+kernel,by decide+kernel,by decide+kernel,by decide,by decide⟩
theorem Hn (h:n<=8):x7 n<=28:=aap (jV h) (by decide)
theorem Tv (K:Nat) (e: ¬4^K<=3^K*n) (s:Nat) (f:K<=s) (b:4^s<=3^s*n):False:=by
 obtain⟨r,rfl⟩: ∃r,s=K+r:=⟨s-K,by omega⟩;rw[abP,abP]at b;have c:3^K*3^r*n<=3^K*n*4^r:=by
  rw[ab8,abB (3^r),<- ab8];simp_all[aas,aaF]
 exact e (Nat.le_of_mul_le_mul_right (aap b c) (abh (by omega)))
section
variable {N B S Z:Nat} {n:Nat} {f0 f t:FF} {s adds:Nat}
theorem RedI.s_le (k:Fc N B S Z) (h:RedI N B Z n f0 f t s adds):s<S:=by
 rcases acQ s S with b|b
 ·exact b
 exfalso;have e:=Jt h.dfn n (aar _);have c:4^s<=3^s*B^N:=aap (abz _ e) h.pot;exact Tv S k.pt s b c
theorem RedI.adds_le (k:Fc N B S Z) (h:RedI N B Z n f0 f t s adds) (b:n<=N):adds<=28*S+28:=by
 have c:=h.s_le k;have e:=h.cnt;have g:=xq f n;have j:=Hn (aap b k.n8);omega
theorem RedI.szf (k:Fc N B S Z) (h:RedI N B Z n f0 f t s adds) (j:n<=N) {a:Nat} (e:a<n) (g:m<n):Sz (f a m) 400:=by
 have c:=h.jn.ent h.dfn (aap (by decide) k.b1) e g;exact abS c (k.eNs n (by omega))
theorem RedI.szc (k:Fc N B S Z) (h:RedI N B Z n f0 f t s adds) (p:n<=N) {i:Nat} (b:i<n) (c:m<i):Sz (cF f i m) Z:=by
 rw[NB h.dfn (by omega)];have e:=GZ (l:=bk f m i m) (h.dfn.pos m (by omega));have g:=h.jn.lam h.dfn (aap (by decide) k.b1) i m b c;have o:=k.lMs n (by omega);grind [Sz]
theorem LT {c:Ch} (h:scanF f n=some c):rankF f n=Ed c:=by grind [rankF]
theorem RedI.add (k:Fc N B S Z) (h:RedI N B Z n f0 f t s adds) (C:n<=N) {i:Nat} (w:scanF f n=some (.add i m)):RedI N B Z n f0 (eQ f i m (cF f i m)) (js n t (Rt i m (cF f i m))) s (adds+1)/\rankF f n<rankF (eQ f i m (cF f i m)) n:=by
 obtain⟨r,e⟩:=iH w;have e:i<n:=e;obtain⟨c,D,F,E⟩:=id r;have o:rankF f n<rankF (eQ f i m (cF f i m)) n:=by
  rw[LT w];exact TD c e (fun G g=>zX h.dfn _ c e g (E G g)) (fun H y q=>B4 h.dfn c e y q (fun z=>F H z q))
 obtain⟨p,_⟩:=j2 h.dfn.sym h.dfn.ne (cF f i m) c e;have A:=h.cnt;refine⟨⟨h.dfn.add _ c e,VF h.dfn (aap (by decide) k.b1) h.jn r e,by rw[p n (aar _)];exact h.det,by rw[sX n (fun t J=>p (t+1) (by omega))];exact h.pot,by omega,fun a b u v=>?_⟩,o⟩;rw[GJ (by omega) (by omega) t a b v];have x:=h.szt a b u v;split
 ·have I:=(h.szc k C e c).mul (h.szt a m u (by omega));exact(Sz.add (x.mono (l:=Z+(1+(Z+4)*adds)) (by omega)) I).mono (by grind)
 rw[adN];exact x.mono (by grind)
theorem RedI.swap (k:Fc N B S Z) (h:RedI N B Z n f0 f t s adds) (y:n<=N) (w:scanF f n=some (.swp m)):RedI N B Z n f0 (lj f m) (js n t (Qs m)) (s+1) adds:=by
 obtain⟨g,c⟩:=iH w;have c:m+1<n:=c;obtain⟨e,_,_⟩:=id g;obtain⟨u,_⟩:=nZ h.dfn.sym h.dfn.pos c;have x:=h.cnt;have z:=xq f n;have A:=Hn (aap y k.n8);refine⟨h.dfn.swap c e,RI h.dfn h.jn g c,by rw[u n (aar _) (by omega)];exact h.det,?_,by omega,fun a b v j=>?_⟩
 ·have p:=D6 h.dfn c e n (by omega) (aar _);have q:=aas (4^s) p;have l:4^(s+1)*prD (lj f m) n=4^s*(4*prD (lj f m) n):=by grind
  have o:4^s*(3*prD f n)=3*(4^s*prD f n):=ady _ _ _;have r:3^(s+1)*B^N=3*(3^s*B^N):=by grind
  rw[l,r];rw[o]at q;exact aap q (aas 3 h.pot)
 rw[GK c t a b j];exact h.szt a _ v (pY c j)
def Va (S n:Nat) (f:FF) (s:Nat):Nat:=(S-s)*30+(29-rankF f n)
theorem RedI.mu_add (k:Fc N B S Z) (h:RedI N B Z n f0 f t s adds) (b:n<=N) {i:Nat} (c:scanF f n=some (.add i m)):Va S n (eQ f i m (cF f i m)) s<Va S n f s:=by
 have e:=(h.add k b c).2;have g:=xq (eQ f i m (cF f i m)) n;have l:=Hn (aap b k.n8);unfold Va;omega
theorem RedI.mu_swap (k:Fc N B S Z) (h:RedI N B Z n f0 f t s adds) (c:n<=N) (b:scanF f n=some (.swp m)):Va S n (lj f m) (s+1)<Va S n f s:=by
 have e:=(h.swap k c b).s_le k;grind [Va]
theorem pQ (k:Fc N B S Z) (e:n<=N): ∀m f t s adds,Va S n f s<=m->RedI N B Z n f0 f t s adds-> ∃h T,Rch n f t h T
 |0,f,t,s,adds,o,h=>by
  cases b:scanF f n with
  |none=>exact⟨f,t,.done f t b⟩
  |some c=>
   cases c with
   |add i j=>have:=h.mu_add k e b;omega
   |swp m=>have:=h.mu_swap k e b;omega
 |m+1,f,t,s,adds,o,h=>by
  cases b:scanF f n with
  |none=>exact⟨f,t,.done f t b⟩
  |some c=>
   cases c with
   |add i j=>
    have:=h.mu_add k e b;obtain⟨g,T,l⟩:=pQ k e m _ _ _ _ (by omega) (h.add k e b).1;exact⟨g,T,.step f t g T _ b l⟩
   |swp q=>
    have:=h.mu_swap k e b;obtain⟨g,T,l⟩:=pQ k e m _ _ _ _ (by omega) (h.swap k e b);exact⟨g,T,.step f t g T _ b l⟩
theorem RedI.red (h:RedI N B Z n f0 f t s adds) (b:1<=n) (g:dk f0 n<=10000) (e:scanF f n=none):RedR f n:=by
 refine(uM b).1 ⟨h.dfn.sym,fun k c=>?_,?_,G9 e⟩
 ·rw[qy h.dfn.pos k c];exact h.dfn.pos k c
 have:=qy h.dfn.pos (n-1) (by omega);rw[show n-1+1=n by omega]at this;rw[this,h.det];exact g
theorem RedI.start_ (k:Fc N B S Z) (m:n<=N) (p:SymF f n) (o:CC f n) (j: ∀k,k<=n->(dk f k).natAbs<=B) (h: ∀a,a<n->(f a a).natAbs<=B) (q: ∀a b,a<n->b<n->Sz (t a b) 1):RedI N B Z n f f t 0 0:=by
 have e: ∀k,k<n->0<dk f (k+1):=fun k l=>(BD o k l).1
 have c:Def f n B:=⟨p,e,j⟩;have r:=k.b1;refine⟨c,.inl fun a g=>aap (h a g) ?_,rfl,?_,by omega,fun a b g h=>(q a b g h).mono (by omega)⟩
 ·unfold cN;exact aap (adJ B (B*B)) (abz _ (abh (by omega)))
 simp only[aer,aeA];exact aap (Px c n (aar _)) (aaJ (by omega) m)
theorem RedI.start (g:1<=n) (e:n<=8) (j:SymF f n) (h:CC f n) (c: ∀a b,(f a b).natAbs<=9) (l: ∀a b,a<n->b<n->Sz (t a b) 1):RedI 8 bB 41 n f f t 0 0:=
 RedI.start_ ZI e j h (fun k m=>YI c (by omega)) (fun a _=>aap (c a a) (by decide)) l
end
end
theorem Dx {b:World} (h:Ext w b):Keep (fun _=>False) w b:=⟨h.os,h.tape,h.output,h.size,fun k c _=>h.block k c⟩
theorem OA {b:World} (h:Keep (fun _=>False) w b):Ext w b:=⟨h.os,h.tape,h.output,h.size,fun k c=>h.block k c (fun h=>h)⟩
theorem I2 {j:World} (h:Ext w j) (l: ∀f,b f->f<w.heap.size):Inv w (fun _=>False) b (famH 0 []) (fun _ _=>none) j:=by
 have e: ∀a,famH 0 [] a=[]:=fun a=>by grind [famH]
 refine⟨Dx h,fun a r o g=>?_,fun a r n s o q f c p g=>?_,fun a r o f c g=>?_,fun f m=>aaA (l f m) h.size,fun a r o g=>?_⟩<;>(grind)
theorem jK {P:Program} {f:FuncId} {args:List TV} {r:TV} (q:callable P f=true) (h: ∀(X:Nat->Prop) (w:World) (vs:Array Value),(∀b,X b->b<w.heap.size)->vs.size=args.length->
  (∀(j:Nat) t,args[j]?=some t-> ∃v:Value,vs[j]?=some v/\t.rel (fun _ _=>none) (fun _=>[]) X w v)->Calls P f vs w fun e g=> ∃v,e= .returned v/\(∀s H Y,r.rel s H Y g v)/\Ext w g):CallC P f args ⟨[],r⟩:=
 ⟨q,fun X w vs l c p=>(h X w vs l c p).mono fun e g ⟨v,m,n,o⟩=>⟨v,m,fun _ _=>none,I2 o l,n _ _ _⟩⟩
theorem CallC.calls {P:Program} {f:FuncId} {args:List TV} {r:TV} (h:CallC P f args ⟨[],r⟩) {vs:Array Value} (c:vs.size=args.length) (p: ∀(j:Nat) t,args[j]?=some t-> ∃v:Value,vs[j]?=some v/\t.rel (fun _ _=>none) (fun _=>[]) (fun _=>False) w v):Calls P f vs w fun e g=> ∃v,e= .returned v/\(∃l H X,r.rel l H X g v)/\Ext w g:=
 (h.2 (fun _=>False) w vs (fun b h=>h.elim) c p).mono fun e g ⟨v,m,l,n,o⟩=>⟨v,m,⟨_,_,_,o⟩,OA n.keep⟩
theorem xu {e:Rho} (c:Bool):(TV.raw (.bool c)).rel e g b w (.bool c):=bM.raw _ rfl
theorem oI {v:Value} (h:bM b w (.raw e) v):v=e:=by cases h;rfl
theorem uO (h:bM b w (.sl (ls fI c)) e): ∃A j,e= .slice A c.length j/\c.length<=j/\c.length<=9223372036854775807/\RdI .i64 w A c:=by
 generalize m:PV.sl (ls fI c)=x at h;cases h with
 |raw e h=>cases m
 |ptr g o F f y B r t=>cases m
 |nil a j=>
  injection m with m
  have D:c=[]:=by simp_all[ls]
  subst D;exact⟨a,j,rfl,aaW _,by simp,RdI.nil _ _ _⟩
 |sl g o u cap J f y B q n s r t=>
  injection m with m
  subst m;rw[co]at n s;refine⟨some ⟨g,o,none⟩,cap,by rw[co],n,s,fun E=>⟨g,o,rfl,fun i x m=>?_⟩⟩;rw[aam]at m;obtain⟨z,I,rfl⟩:=aak.1 m;have p:(ls fI c)[i]?=some (fI z):=by grind [dO]
  have C:u=1:=by rw[<- q _ (aai p)];rfl
  subst C;have G:=r i _ 0 _ p rfl;have H:=oI (t i _ 0 _ p rfl);grind
theorem oJ {M:List (List Int)} (h:bM b w (.sl (ls (fR fI) M)) e): ∃A c,e= .slice A M.length c/\M.length<=c/\M.length<=9223372036854775807/\oP .i64 w A M:=by
 generalize l:PV.sl (ls (fR fI) M)=x at h;cases h with
 |raw e h=>cases l
 |ptr g m F f z B q t=>cases l
 |nil a c=>
  injection l with l
  have D:M=[]:=by simp_all[ls]
  subst D;exact⟨a,c,rfl,aaW _,by simp,oP.nil _ _ _⟩
 |sl g m u cap H f z B o j s q t=>
  injection l with l
  subst l;rw[co]at j s;refine⟨some ⟨g,m,none⟩,cap,by rw[co],j,s,fun E=>⟨g,m,rfl,fun i r G=>?_⟩⟩;have n:(ls (fR fI) M)[i]?=some (fR fI r):=by grind [dO]
  have C:u=1:=by rw[<- o _ (aai n)];rfl
  subst C;have p:=q i _ 0 _ n rfl;have y:=uO (t i _ 0 _ n rfl);rw[adz,aa5]at p;exact⟨_,p,y⟩
theorem TH {A:Option Addr} (t:c.length<=n) (u:c.length<=9223372036854775807) (h:RdI .i64 w A c):bM (fun _=>False) w (.sl (ls fI c)) (.slice A c.length n):=by
 cases c with
 |nil=>exact bM.nil _ _
 |cons o l0=>
  obtain⟨b,m,rfl,s⟩:=h (by simp);have q:=s 0 (.int .i64 o) (by simp);have r:b<w.heap.size:=mj q;have:=bM.sl (X:=fun _=>False) (w:=w) b m 1 n (ls fI (o::l0)) (fun i _=> .int .i64 ((o::l0).getD i 0)) (fun h=>h) r (fun e f=>by
   obtain⟨z,_,rfl⟩:=aau.1 f;rfl) (by grind [co]) (by grind [co]) (fun i e j x f g=>by
   rw[dO]at f;obtain⟨z,p,rfl⟩:=aak.1 f;cases j with
   |succ j=>simp[fI]at g
   |zero=>
    grind) (fun i e j x f g=>by
   rw[dO]at f;obtain⟨z,p,rfl⟩:=aak.1 f;cases j with
   |succ j=>simp[fI]at g
   |zero=>
    simp[fI]at g;subst g;simp only[aaw,p,abD];exact bM.raw _ rfl)
  grind [co]
theorem Jw {M:List (List Int)} {A:Option Addr} (F:M.length<=n) (G:M.length<=9223372036854775807) (h:oP .i64 w A M):bM (fun _=>False) w (.sl (ls (fR fI) M)) (.slice A M.length n):=by
 cases M with
 |nil=>exact bM.nil _ _
 |cons o p=>
  obtain⟨b,g,rfl,m⟩:=h (by simp);obtain⟨H,q,_⟩:=m 0 o rfl;have s:b<w.heap.size:=mj q;have:=bM.sl (X:=fun _=>False) (w:=w) b g 1 n (ls (fR fI) (o::p)) (fun i _=>(w.cell? ⟨b,g+i,none⟩).getD undef) (fun h=>h) s (fun e f=>by
   obtain⟨z,_,rfl⟩:=aau.1 f;rfl) (by grind [co]) (by grind [co]) (fun i e j x f l=>by
   grind [dO,fR]) (fun i e j x f l=>by
   rw[dO]at f;obtain⟨r,t,rfl⟩:=aak.1 f;cases j with
   |succ j=>simp[fR]at l
   |zero=>
    simp[fR]at l;subst l;obtain⟨v,y,B,u,rfl,C,D,E⟩:=m i r t;grind [TH])
  grind [co]
/-! The program's functions. -/
theorem sC {args:List TV} {vs:Array Value} (h: ∀(j:Nat) t,args[j]?=some t-> ∃v:Value,vs[j]?=some v/\t.rel (fun _ _=>none) (fun _=>[]) b w v) {j:Nat} {x:PV} (c:args[j]?=some (.one (.p x))): ∃v:Value,vs[j]?=some v/\bM b w x v:=h j _ c
theorem Pt (M:List (List Int)) (x:List Int):CallC prog 62 [cq M,mY x] ⟨[],.raw (.bool (lf M x))⟩:=by
 refine jK (by kernel_rfl) fun X w vs u m f=>?_
 obtain⟨y,q,o⟩:=sC f (j:=0) rfl;obtain⟨z,r,p⟩:=sC f (j:=1) rfl;obtain⟨A,c,rfl,h,l,g⟩:=oJ o;obtain⟨B,d,rfl,v,b,n⟩:=uO p;obtain rfl:vs= #[.slice A M.length c,.slice B x.length d]:=by
  grind
 refine(MB A B c d M x w g n l h b).mono fun e C ⟨s,t⟩=>?_
 grind [xu]
def Hi (v:Value) (a:Nat) (g:Nat->Value):Nat->Value:=fun j=>if j=0 then v else if j=1 then .int .i64 (a:Int)else g j
theorem Ls (tx n:Nat) (A:Option Addr) (c:Nat) (l:List Int) (a:Nat) (g:Nat->Value) (w:World) (hn:2<=n) (hl:RdI .i8 w A l) (hb: ∀z∈l,-128<=z/\z<=127) (ll:l.length<=9223372036854775807) (ha:a<=l.length) (hT:w.rowIs tx 104 n (Hi (.slice A l.length c) a g)) (hne:l≠[]-> ∀p,A=some p->p.block≠tx):
  Calls prog 61 #[.pointer (some ⟨tx,0,none⟩)] w fun e w'=>e= .returned (.int .i64 (l.getD a 0))/\w'.rowIs tx 104 n (Hi (.slice A l.length c) (gI l a) g)/\w.grownBy w' (some tx):=by
 have HT:=aal hT;have HL:=aal hl;have HB:=aal hb;have HN:=aal hne;clear hT hl hb hne;have t0:w.cell? ⟨tx,0,none⟩=some (.slice A l.length c):=HT.out.cell (by omega);have t1:w.cell? ⟨tx,1,none⟩=some (.int .i64 (a:Int)):=HT.out.cell (by omega);have t2:w.frozen? ⟨tx,1,none⟩=false:=HT.out.frozen 1;by_cases hlt:a<l.length
 ·obtain⟨z,hz⟩:=getElem?_of_lt hlt;obtain⟨b,off,rfl,hc⟩:=HL.out.at_ hz;have hbt:b≠tx:=HN.out (by grind) _ rfl;have hzb:=HB.out z (aai hz);have hz1:=hzb.1;have hz2:=hzb.2;have HZ:Hid (l.getD a 0=z):=aal (by grind);have HNx:Hid (gI l a=a+1):=aal (if_pos hlt);clear hz hzb
  go_enter func61,ntmps61
  go_wp2_with fail
  go_quiet (fail)
  go_wp2_with fail
  have hrow:=((nS HT.out nq).set 1 (.int .i64 ((a:Int)+1))).congr (g:=Hi (.slice (some ⟨b,off,none⟩) l.length c) (a+1) g) (fun j hj=>by
   grind [Hi])
  have HROW:=aal hrow;have HG:=aal (A4 (fh ((Ext.refl w).drewN nq) tx) 1 (.int .i64 ((a:Int)+1)));have s0:((w.drewN nq).setCell ⟨tx,1,none⟩ (.int .i64 ((a:Int)+1))).cell? ⟨tx,0,none⟩=some (.slice (some ⟨b,off,none⟩) l.length c):=HROW.out.cell (i:=0) (by omega);have s1:((w.drewN nq).setCell ⟨tx,1,none⟩ (.int .i64 ((a:Int)+1))).cell? ⟨tx,1,none⟩=some (.int .i64 ((a:Int)+1)):=by
   have:=HROW.out.cell (i:=1) (by omega);grind [Hi]
  have s2:((w.drewN nq).setCell ⟨tx,1,none⟩ (.int .i64 ((a:Int)+1))).cell? ⟨b,off+a,none⟩=some (.int .i8 z):=ox HG.out hc hbt;have a1:IntKind.i64.wrap ((a:Int)+1-1)=(a:Int):=by grind [IntWalk.i64_in]
  have a2:(a:Int)<(l.length:Int):=by omega
  clear t0 t1 t2 hc hrow;generalize(w.drewN nq).setCell ⟨tx,1,none⟩ (.int .i64 ((a:Int)+1))=w3 at*
  go_quiet (fail)
  go_wp2_with fail
  go_ret
  rw[HZ.out,HNx.out];exact⟨rfl,nS HROW.out _,iX HG.out (fh ((Ext.refl _).drewN _) tx)⟩
 go_enter func61,ntmps61
 have HZ:Hid (l.getD a 0=0):=aal (by grind);have HNx:Hid (gI l a=a):=aal (if_neg hlt)
 go_wp2_with fail
 go_quiet (fail)
 go_wp2_with fail
 go_ret
 rw[HZ.out,HNx.out];exact⟨rfl,nS HT.out _,fh ((Ext.refl _).drewN _) tx⟩
def f8 (z:Int):List PV:=[.raw (.int .i8 z)]
abbrev Hk (L:List Int) (a:Nat):List PV:=[.sl (ls f8 L),.raw (.int .i64 (a:Int))]
abbrev cw (b:Nat):TV:= .raw (.pointer (some ⟨b,0,none⟩))
def I8 (L:List Int):Prop:= ∀z∈L,-128<=z/\z<=127
theorem I8.getD (h:I8 c) (a:Nat): -128<=c.getD a 0/\c.getD a 0<=127:=by
 rw[aaw];cases b:c[a]? with
 |none=>simp
 |some z=>exact h z (aai b)
theorem TJ (h:bM b w (.sl (ls f8 c)) e): ∃A j,e= .slice A c.length j/\c.length<=9223372036854775807/\RdI .i8 w A c/\(c≠[]-> ∀p,A=some p-> ¬b p.block):=by
 generalize m:PV.sl (ls f8 c)=x at h;cases h with
 |raw e h=>cases m
 |ptr g n G f B C s u=>cases m
 |nil a j=>
  injection m with m
  have E:c=[]:=by simp_all[ls]
  subst E;exact⟨a,j,rfl,by simp,RdI.nil _ _ _,fun h=>absurd rfl h⟩
 |sl g n y cap L f B C r o t s u=>
  injection m with m
  subst m;rw[co]at o t;refine⟨some ⟨g,n,none⟩,cap,by rw[co],t,fun F=>⟨g,n,rfl,fun i x m=>?_⟩,fun _ p J=>by grind⟩;rw[aam]at m;obtain⟨z,K,rfl⟩:=aak.1 m;have q:(ls f8 c)[i]?=some (f8 z):=by grind [dO]
  have D:y=1:=by rw[<- r _ (aai q)];rfl
  subst D;have H:=s i _ 0 _ q rfl;have I:=oI (u i _ 0 _ q rfl);grind
theorem Fq (b:Nat) (L:List Int) (a:Nat) (T:I8 L) (V:a<=L.length):CallT prog b 104 61 [cw b] (Hk L a) ⟨[],.raw (.int .i64 (L.getD a 0))⟩ (Hk L (gI L a)):=by
 refine⟨by kernel_rfl,fun X w vs U B s aa l=>?_⟩;obtain⟨cells,c,O,P,Q,R,S,I⟩:=s;obtain⟨v0,e0,r0⟩:=l 0 _ rfl;have H:v0= .pointer (some ⟨b,0,none⟩):=oI r0;subst H;obtain rfl:vs= #[.pointer (some ⟨b,0,none⟩)]:=by
  grind
 obtain⟨v,c0,_,N⟩:=I 0 _ rfl;obtain⟨u,c1,_,r2⟩:=I 1 _ rfl;have M:=oI r2;subst M;obtain⟨A,cap,rfl,Z,F,W⟩:=TJ N;have G:cells.size=c*2:=P;have z:w.rowIs b 104 (c*2) (Hi (.slice A L.length cap) a fun j=>(cells[j]?).getD undef):=by
  refine⟨cells,O,G,fun i hi=>?_⟩;grind [Hi]
 have q:L≠[]-> ∀p,A=some p->p.block≠b:=fun y p K Y=>W y p K (by rw[Y];exact B)
 refine(Ls b (c*2) A cap L a _ w (by omega) F T Z V z q).mono fun e w' ⟨q1,⟨f,q2,q3,q4⟩,n⟩=>?_
 have t: ∀k,k<w.heap.size->k≠b->w'.heap[k]?=w.heap[k]?:=fun k D y=>n.block k D (by grind)
 have C: ∀j,Xo X (fun _ _=>none) (famH 0 []) j->X j:=fun j m=>by
  rcases m with m|⟨_,_,_,_,_,g⟩
  ·exact m
  cases g
 refine⟨_,q1,fun _ _=>none,?_,bM.raw _ rfl,f,c,q2,q3,Q,R,S,fun j x h=>?_⟩
 ·have e: ∀a,famH 0 [] a=[]:=fun a=>by grind [famH]
  refine⟨⟨n.os,n.tape,n.output,n.size,fun k D J=>t k D J⟩,fun a r o E=>?_,fun a r a' r' o o' b c c' E=>?_,fun a r o b c E=>?_,fun j m=>aaA (U j m) n.size,fun a r o E=>?_⟩<;>(grind)
 match j,h with
 |0,h=>
  have h:x= .sl (ls f8 L):=by grind
  subst h;refine⟨.slice A L.length cap,q4 0 (by omega),rfl,N.later (fun j _ m=>C j m) n.size fun p u K J M=>?_⟩;grind [iz]
 |1,h=>
  have h:x= .raw (.int .i64 (gI L a:Nat)):=by grind
  subst h;exact⟨_,q4 1 (by omega),rfl,bM.raw _ rfl⟩
 |j+2,h=>simp at h
def mV (L:List Int) (a n:Nat):Nat:=((L.getD a 0)%256).toNat%n
theorem mf {n:Nat} (L:List Int) (a:Nat) (h:0<n):mV L a n<n:=aaQ _ h
theorem Kw (L:List Int) (a n:Nat):Int.tmod (L.getD a 0%256) (n:Int)=(mV L a n:Int):=by
 grind [mV]
theorem XV (x:Int):IntKind.u8.wrap x=x%256:=by rfl
theorem sS {a:Nat} (h:a<=c.length):gI c a<=c.length:=by grind [gI]
theorem Av (b:Nat) (L:List Int) (a n:Nat) (g:I8 L) (h:a<=L.length) (j:0<n) (l:n<=100):CallT prog b 104 82 [cw b,.raw (.int .i64 (n:Int))] (Hk L a) ⟨[],.raw (.int .i64 (mV L a n:Int))⟩ (Hk L (gI L a)):=by
 have c:=Fq b L a g h;have e:=Kw L a n;have f:=XV (L.getD a 0);refine j5 func82 rfl (by kernel_rfl) ?_;rw[ntmps82];refine FH @cw.eq_1 (k:=?_);refine si 1 c [] [] (by kernel_rfl) (by rfl) (by rfl) fun _ K=>?_;simp(disch:=omega) only[kd,List.map,cw,Nat.reduceAdd,f,aK,e];apply K
 (refine ky ⟨.inr rfl,rfl,bW rfl ?_ rfl⟩;simp(disch:=omega) only[kd,results82])
section
def JC (r:List Int):OObj:=⟨2,1,lc fI r⟩
abbrev kI (d n c i:Nat) (f:FF):List OObj:=⟨35,1,ju d (ae i c)++ae (n-i) uo⟩::(mat i c f).map JC
abbrev l4 (d n c:Nat) (f:FF):List OObj:=⟨35,1,ju d (ae n c)⟩::(mat n c f).map JC
theorem Gz (d n c:Nat) (f:FF):kI d n c n f=l4 d n c f:=by simp
theorem nH {i n:Nat} (d c:Nat) (h:i<=n):(ju d (ae i c)++ae (n-i) uo).length=n:=by grind [cJ]
theorem wF {i k n:Nat} (d c:Nat) (h:k<i):(ju d (ae i c)++ae (n-i) uo)[k]?=some [.sl d (k+1) 0 c]:=by
 grind [cJ,bU]
theorem Ba {i n:Nat} (d c:Nat) (h:i<n):(ju d (ae i c)++ae (n-i) uo)[i]?=some uo:=by
 grind [cJ]
theorem d9 {n i:Nat} (c:Nat) (f:FF) (h:i<n):((mat n c f).map JC)[i]?=some ⟨2,1,lc fI (aN c (f i))⟩:=by
 rw[aam,bF _ _ h];rfl
theorem gZ {n i j:Nat} (c:Nat) (f:FF) (v:Int):((mat n c f).map JC).set i ⟨2,1,(lc fI (aN c (f i))).set j [.p (.raw (.int .i64 v))]⟩=(mat n c (upd f i j v)).map JC:=by
 have e:(⟨2,1,(lc fI (aN c (f i))).set j [.p (.raw (.int .i64 v))]⟩:OObj)=JC (aN c fun b=>if b=j then v else f i b):=by
  rw[<- kj,JC,<- wM];rfl
 rw[e,<- aeo,Jd];rfl
theorem gG {g:FF} (h: ∀i j,i<n->j<m->f i j=g i j):(mat n m f).map JC=(mat n m g).map JC:=by rw[gQ h]
theorem uE {i n c:Nat} (d:Nat) (f:FF) (l:i<n) (e: ∀j,j<c->f i j=0):
  (⟨35,1,(ju d (ae i c)++ae (n-i) uo).set i [.sl d (i+1) 0 c]⟩::((mat i c f).map JC++[⟨2,1,ae c [.raw (.int .i64 0)]⟩]):List OObj)=kI d n c (i+1) f:=by
 have g:(ju d (ae i c)++ae (n-i) uo).set i [.sl d (i+1) 0 c]=ju d (ae (i+1) c)++ae (n-(i+1)) uo:=by
  rw[abG _ _ (by simp[cJ]),cJ,aaL,abC,acu (n:=i),rF,aaL,aaM]
  congr 1
  rw[show n-i=n-(i+1)+1 by omega,acx];rfl
 have h:(⟨2,1,ae c [.raw (.int .i64 0)]⟩:OObj)=JC (aN c (f i)):=by
  rw[JC]
  congr 1
  apply aaC;intro j;rw[aba,wL];by_cases b:j<c
  ·rw[if_pos b,aw _ b,e j b];rfl
  grind [aI]
 grind [DS]
theorem dR (d e n c:Nat) (f:FF):(l4 d n c f).map (renO e)=l4 e n c f:=by
 grind [renO,JI,List.map_congr_left,JC,iC]
theorem fB {d n c:Nat} {f:FF} (h:g d=l4 d n c f):qB g d:=fun r o b e j x m=>by
 rw[h]at b;cases r with
 |succ r=>
  rw[abI,aam]at b;obtain⟨l,p,rfl⟩:=aak.1 b;exact .inl (bo _ _ l e j x m)
 |zero=>
  grind [List.mem_iff_getElem?,cJ,bU,JC,bo,bF]
theorem wy {H:OH} {d n c:Nat} {f:FF} (h:H d=l4 d n c f):ew H d (.one (.sl d 0 0 n))=cq (mat n c f):=by
 have e:((ju d (ae n c)).map (List.map (kC H d)))=ls (fR fI) (mat n c f):=by
  apply aaC;intro i;rw[aam,dO];by_cases b:i<n
  ·rw[bU d c b,bF _ _ b];simp only[abv,aaI,aaY,kC,h,abI,d9 _ _ b,fR,eY,Be,oA];grind [aI]
  grind [cJ,aT]
 grind [ew,dF,cJ]
abbrev WH (k:Nat) (b:Bool):TV:= .tup [(false,[.sl 0 0 0 k]),(false,[.p (.raw (.bool b))])]
theorem W7 {g:Func} {d k:Nat} {b:Bool} {s:AS} (l:s.H d=l4 d k n f) (e:pS prog s g.results.toList=some (.tup [(false,[.sl d 0 0 k]),(false,[.p (.raw (.bool b))])])) (j:d<=4999):
  ∃h,bG s h/\mZ prog g ⟨l4 0 k n f,WH k b⟩ h:=
 ⟨s,bG.refl s,_,d,e,xO (by simp[selfTV,bs]) j,by rw[l,dR],rfl⟩
section
variable {P:Program} {fu:FuncId} {args:List TV} {n c:Nat} {g:FF}
theorem CallC.fzI (h:CallC P fu args ⟨l4 0 n c g,.one (.sl 0 0 0 n)⟩):CallC P fu args ⟨[],cq (mat n c g)⟩:=
 h.weak ((bD 0 (fB (d:=0) (n:=n) (c:=c) (f:=g) rfl)).trans (aj (tm:=[cq (mat n c g)]) (l:=[(0,[])]) ⟨rfl,trivial⟩ (by
  simp[wk];exact(wy (H:=famH 0 (l4 0 n c g)) (d:=0) (n:=n) (c:=c) (f:=g) rfl).symm)))
end
def kp (L:List Int) (a:Nat):Nat->Nat
 |0=>a
 |i+1=>gI L (kp L a i)
theorem vK {L:List Int} {a:Nat} (h:a<=L.length): ∀i,kp L a i<=L.length
 |0=>h
 |i+1=>sS (vK h i)
def gU (L:List Int) (a b:Nat):Nat->Nat->Int:=fun i j=>if i=j then 1+(mV L (kp L a i) b:Int)else 0
def MG (L:List Int) (a b i:Nat):Nat->Nat->Int:=fun x y=>if x<i then gU L a b x y else 0
theorem NN (L:List Int) (a b i x y:Nat):upd (MG L a b i) i i (1+(mV L (kp L a i) b:Int)) x y=MG L a b (i+1) x y:=by
 unfold upd MG gU;by_cases c:x=i
 ·subst c;grind
 have:x<i+1↔x<i:=by omega
 simp_all
theorem mq (b:Nat) (L:List Int) (a n f:Nat) (r:I8 L) (s:a<=L.length) (C:n<=8) (h:0<f) (p:f<=100):
  CallT prog b 104 83 [cw b,.raw (.int .i64 (n:Int)),.raw (.int .i64 (f:Int))] (Hk L a) ⟨l4 0 n n (gU L a f),.one (.sl 0 0 0 n)⟩ (Hk L (kp L a n)):=by
 refine j5 func83 rfl (by kernel_rfl) ?_;rw[ntmps83];refine FH @cw.eq_1 (k:=cQ (k:=b6 (cQ (k:=?_))));refine iO (G:=jx n) (fun g=>⟨(cw b::rN n::rN f::j4 (.one (.sl 10 0 0 n)::j4 (.raw (.int .i64 (n:Int))::rN g.i::j16 (jk::jk::jk::[])))),Hm [(10,kI 10 n n g.i (MG L a f g.i))]⟩) (fun g=>Hk L (kp L a g.i)) (fun g=>n-g.i) ⟨0,by omega⟩ ?_ rfl ?_
 ·refine aj ⟨?_,trivial⟩ ?_
  ·rfl
  simp[wk]
 rintro⟨i,u⟩;simp only;by_cases o:i<n
 ·have q:=Av b L (kp L a i) f r (vK s i) h p;have t:=mf (n:=f) L (kp L a i) h;have v:=Ba (i:=i) (n:=n) 10 n o;have D:=nH (i:=i) (n:=n) 10 n u;have w:=aT i n (MG L a f i);have x:=uE (i:=i) (n:=n) (c:=n) 10 (MG L a f i) o (fun j B=>by grind [MG]);have y:=wF (i:=i+1) (k:=i) (n:=n) 10 n (by omega);have E:=nH (i:=i+1) (n:=n) 10 n (by omega);have z:=d9 (n:=i+1) n (MG L a f i) (i:=i) (by omega);have A:=aw (MG L a f i i) o;refine iQ @cw.eq_1 (k:=pe rfl (b6 (cA (cQ (k:=iQ (aH v (aH @aaL (aH @acf (aH w x)))) (k:=?_))))));refine dV.weak (aj (tm:=(cw b::rN n::rN f::j4 (.one (.sl 10 0 0 n)::rN i::jk::jk::jk::rN n::rN i::j16 (jk::jk::jk::[])))) (l:=[(10,kI 10 n n (i+1) (MG L a f i))]) ⟨?_,trivial⟩ (by simp[wk])) ?_
  ·rfl
  refine jZ b8 7 q [] [] (by kernel_rfl) (by kernel_rfl) (by rfl) (by rfl) fun _ K=>?_;simp(disch:=omega) only[kd,cw,Nat.reduceAdd,y,aK,z,A,gZ];apply K
  show dV _ _ _ _ _ _ _;refine ss (k:=?_);refine⟨⟨i+1,by omega⟩,by grind,aj ⟨?_,trivial⟩ ?_,rfl⟩
  ·show _::_=_::_;grind [gG,NN]
  simp[wk]
 have m:i=n:=by omega
 subst m;refine iQ @cw.eq_1 (k:=pb rfl ?_);show dV _ _ _ _ _ _ _;have e:kI 10 i i i (MG L a f i)=l4 10 i i (gU L a f):=by
  grind [gG,MG]
 rw[e];refine cQ (k:=?_);refine ky ⟨.inr rfl,rfl,_,bG.refl _,?_⟩;refine⟨.one (.sl 10 0 0 i),10,?_,rfl,?_,rfl⟩
 ·simp(disch:=omega) only[kd,results83]
 grind [dR]
end
end Go.Proofs.YtalmoejhjceflaaGreat
