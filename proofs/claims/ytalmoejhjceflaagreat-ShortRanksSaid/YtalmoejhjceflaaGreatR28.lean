/-
  Part 29 of a proof (walks and plain facts).
-/
import Derived.Test.YtalmoejhjceflaaGreatR27
set_option linter.all false
set_option maxRecDepth 100000
set_option maxHeartbeats 64000000
namespace Go.Proofs.YtalmoejhjceflaaGreat
open Go.RowKit Go.Proofs.Tryz
variable {n m:Nat} {x y:Int} {b:FF}
theorem Ys (a b:Int) (c:b≠0) (f:Bh a) (g:Bh b):CallC prog 253 [tZ a,tZ b] ⟨[],tZ (a%b)⟩:=by
 have e:=Cv a b c f g;refine aA func253 rfl ntmps253 (aC (k:=bL [⟨2,_,_,_,e⟩] (k:=ar (k:=aD @results253))))
structure GcG (a b:Int) where
 x:Int
 y:Int
 hx:0<=x
 hy:0<=y
 hg:Int.gcd x y=Int.gcd a b
 sx:Bh x
 sy:Bh y
theorem Of (b:0<=x) (c:0<=y):Int.gcd y (x%y)=Int.gcd x y:=by
 obtain⟨m,rfl⟩:=aaK b;obtain⟨n,rfl⟩:=aaK c;show Nat.gcd n (m%n)=Nat.gcd m n;grind [Nat.gcd_comm,Nat.gcd_rec]
theorem Yl (a b:Int) (l:Bh a) (m:Bh b):CallC prog 242 [tZ a,tZ b] ⟨[],tZ (Int.gcd a b:Nat)⟩:=by
 have n:=No a l.bg;have o:=No b m.bg;refine aA func242 rfl ntmps242 (aC (k:=di [⟨1,_,_,_,n⟩,⟨3,_,_,_,o⟩] (k:=?_)));refine ai (aB (G:=GcG a b) (fun g=>⟨(j4 (.one (.ptr 4 0 0 0)::.one (.ptr 5 0 0 0)::.one (.ptr 6 0 0 0)::j4 (j4 (j4 ([]))))),Hm [(4,AO),(5,qt g.x),(6,qt g.y)]⟩) (fun g=>g.y.natAbs) ⟨a.natAbs,b.natAbs,by omega,by omega,by simp;rfl,l.le (by omega),m.le (by omega)⟩ ?_ ?_)
 ·refine aj ⟨rfl,rfl,rfl,trivial⟩ ?_;simp[wk]
 rintro⟨x,y,v,r,t,s,f⟩;simp only;have j:=mI y f.bg;by_cases c:y=0
 ·subst c;refine ai (cO [⟨1,_,_,_,j⟩] @rz (k:=aq rfl (aZ ?_)));show bf _ _ _ _;have e:((Int.gcd a b:Nat):Int)=x:=by grind [Int.gcd_zero_right]
  rw[e];refine ar (k:=aD @results242)
 have u:=Es c;have p:=Ys x y c s f;have q:=adl x (show 0<y by omega);have h:=adR x c;refine ai (bL [⟨1,_,_,_,j⟩] (k:=ay rfl (ak (am (VU [⟨3,_,_,_,p⟩] (k:=?_))))));refine⟨⟨y,x%y,r,h,by grind [Of],f,f.le (by omega)⟩,by grind,aj ⟨rfl,by simp_all[ax],by simp_all[ax],trivial⟩ ?_⟩;simp[wk]
def cR (n d:Int):List AV:=[.p (.raw (.bool (decide (n<0)))),.p (.sl (ls fU (au n.natAbs))),.p (.raw (.bool (decide (d<0)))),.p (.sl (ls fU (au d.natAbs)))]
def nN (n d:Int):Int:=n/(Int.gcd n d:Nat)
def nD (n d:Int):Int:=d/(Int.gcd n d:Nat)
theorem qD {n d:Int} (b:0<d):0<Int.gcd n d:=Int.gcd_pos_of_ne_zero_right n (by omega)
theorem GL {n d:Int}:nN n d*(Int.gcd n d:Nat)=n:=ad5 (Int.gcd_dvd_left n d)
theorem Bt {n d:Int}:nD n d*(Int.gcd n d:Nat)=d:=ad5 (Int.gcd_dvd_right n d)
theorem pK {n d:Int} (c:0<d):0<nD n d:=by
 have h:=Bt (n:=n) (d:=d);have e:=qD (n:=n) c;rcases acp 0 (nD n d)with b|b
 ·exact b
 have:=Int.mul_nonpos_of_nonpos_of_nonneg b (show(0:Int)<=(Int.gcd n d:Nat) by omega);omega
theorem Ji {d:Int} (b:0<d):nN x d/nD x d=x/d:=by
 grind [Int.mul_ediv_mul_of_pos_left,GL,Bt]
theorem zC {d:Int} {k:Nat} (h:Sz x k):Sz (nN x d) k:=h.ediv _
theorem zB {d:Int} {k:Nat} (h:Sz d k):Sz (nD x d) k:=h.ediv _
theorem UO (n d:Int) (b:0<d) (j:Bh n) (c:Bh d):CallC prog 206 [tZ n,tZ d] ⟨[],.tup [(true,cR (nN n d) (nD n d)),(false,[.p (.raw (.bool true))])]⟩:=by
 have e:=mI d c.bg;rw[Qc b]at e;have l:=Yl n d j c;have o:=qD (n:=n) b;have sg:Bh (Int.gcd n d:Nat):=c.le (by
  have:=Nat.le_of_dvd (by omega) (Int.gcd_dvd_natAbs_right n d);omega)
 have f:=CD n (Int.gcd n d:Nat) (by omega) j sg;have h:=CD d (Int.gcd n d:Nat) (by omega) c sg;rw[show n/(Int.gcd n d:Nat)=nN n d from rfl]at f;rw[show d/(Int.gcd n d:Nat)=nD n d from rfl]at h;generalize((Int.gcd n d:Nat):Int)=g at*
 generalize nN n d=q at*
 generalize nD n d=m at*
 refine aA func206 rfl ntmps206 (aC (k:=ai (bL [⟨1,_,_,_,e⟩] (k:=aq rfl (ak (ai (bL [⟨1,_,_,_,e⟩] (k:=aq rfl (ak (bL [⟨2,_,_,_,l⟩] (k:=di [⟨2,_,_,_,f⟩,⟨5,_,_,_,h⟩] (k:=aD (aH @results206 @cR.eq_1)))))))))))))
theorem jz (n d:Int) (b:0<d) (f:Bh n) (e:Bh d):CallC prog 162 [tR n d] ⟨[],tR (nN n d) (nD n d)⟩:=by
 have c:=UO n d b f e;generalize nN n d=h at*
 generalize nD n d=g at*
 refine aA func162 rfl ntmps162 (aC (k:=cO [⟨4,_,_,_,c⟩] @cR.eq_1 (k:=ai (bC (k:=aq rfl (ak (ar (k:=aD @results162))))))))
theorem VD:CallC prog 161 [] ⟨[],tR 1 2⟩:=by
 have b:=fc 1 (by omega) (by omega);have c:=fc 2 (by omega) (by omega);refine aA func161 rfl ntmps161 (aC (k:=bL [⟨0,_,_,_,b⟩,⟨1,_,_,_,c⟩] (k:=aD @results161)))
theorem RE (n d:Int) (b:0<d) (f:Bh n) (e:Bh d):CallC prog 159 [tR n d] ⟨[],tZ (n/d)⟩:=by
 have g:=jz n d b f e;have c:=CD (nN n d) (nD n d) (by have:=pK (n:=n) b;omega) (zC f) (zB e);rw[Ji b]at c;generalize nN n d=j at*
 generalize nD n d=h at*
 refine aA func159 rfl ntmps159 (aC (k:=bL [⟨1,_,_,_,g⟩] (k:=bL [⟨4,_,_,_,c⟩] (k:=aD @results159))))
abbrev ZJ:List OObj:=[⟨143,4,[[.raw (.bool false),.raw (.slice none 0 0),.raw (.bool false),.raw (.slice none 0 0)]]⟩]
abbrev bxR (n d:Int):List OObj:=[⟨143,4,[[.p (.raw (.bool (decide (n<0)))),.p (.sl (ls fU (au n.natAbs))),.p (.raw (.bool false)),.p (.sl (ls fU (au d.natAbs)))]]⟩]
theorem Vw (a b c d:Int) (e:0<b) (f:0<d) (j:Sz a 100000000) (m:Sz b 100000000) (o:Sz c 100000000) (p:Sz d 100000000):
  CallC prog 160 [tR a b,tR c d] ⟨[],tR (nN (nN a b*nD c d+nN c d*nD a b) (nD a b*nD c d)) (nD (nN a b*nD c d+nN c d*nD a b) (nD a b*nD c d))⟩:=by
 have w:=jz a b e (j.mono (by omega)) (m.mono (by omega));have z:=jz c d f (o.mono (by omega)) (p.mono (by omega));have r:Sz (nN a b) 100000000:=zC j;have h:Sz (nD a b) 100000000:=zB m;have q:Sz (nN c d) 100000000:=zC o;have g:Sz (nD c d) 100000000:=zB p;have F:=pK (n:=a) e;have E:=pK (n:=c) f;generalize nN a b=x at*
 generalize nD a b=y at*
 generalize nN c d=u at*
 generalize nD c d=v at*
 have s:Sz (x*v) 200000000:=(r.mul g).mono (by omega);have t:Sz (u*y) 200000000:=(q.mul h).mono (by omega);have G:Sz (x*v+u*y) 200000001:=s.add t;have H:Sz (y*v) 200000000:=(h.mul g).mono (by omega);have A:=jY x v (r.mono (by omega)) (g.mono (by omega));have B:=jY u y (q.mono (by omega)) (h.mono (by omega));have m3:=ve (x*v) (u*y) (s.mono (by omega)) (t.mono (by omega));have C:=jY y v (h.mono (by omega)) (g.mono (by omega));have D:=UO (x*v+u*y) (y*v) (ad0 F E) (G.mono (by omega)) (H.mono (by omega));generalize nN (x*v+u*y) (y*v)=I at*
 generalize nD (x*v+u*y) (y*v)=rd at*
 refine aA func160 rfl ntmps160 (aC (k:=di [⟨1,_,_,_,w⟩,⟨3,_,_,_,z⟩] (k:=?_)));refine bf.weak (aj (tm:=(j4 (.one (.ptr 4 0 0 0)::.one (.ptr 5 0 0 0)::.one (.ptr 6 0 0 0)::j16 (j4 (j4 (jk::jk::jk::[])))))) (l:=[(4,ZJ),(5,bxR x y),(6,bxR u v)]) ⟨rfl,rfl,rfl,trivial⟩ (by simp[wk])) ?_;refine mb [⟨4,_,_,_,A⟩,⟨9,_,_,_,B⟩,⟨10,_,_,_,m3⟩,⟨15,_,_,_,C⟩,⟨16,_,_,_,D⟩] @cR.eq_1 (k:=ar (k:=aD @results160))
theorem Tf (b:0<y):nN (nN x y*nD 1 2+nN 1 2*nD x y) (nD x y*nD 1 2)/nD (nN x y*nD 1 2+nN 1 2*nD x y) (nD x y*nD 1 2)=(2*x+y)/(2*y):=by
 have c:nN 1 2=1:=by decide
 have e:nD 1 2=2:=by decide
 have j:=pK (n:=x) b;rw[c,e,Ji (by omega)];have h:=qD (n:=x) b;have f:=GL (n:=x) (d:=y);have g:=Bt (n:=x) (d:=y);have:(nN x y*2+1*nD x y)*(Int.gcd x y:Nat)/((nD x y*2)*(Int.gcd x y:Nat))=(nN x y*2+1*nD x y)/(nD x y*2):=ade _ _ (by omega);rw[<- this]
 congr 1
 ·grind
 grind
theorem Kd (p q:Int) (b:0<q) (f:Sz p 100000000) (g:Sz q 100000000):CallC prog 108 [tR p q] ⟨[],tZ ((2*p+q)/(2*q))⟩:=by
 have m:=Vw p q 1 2 b (by omega) f g (mL (by omega)) (n4 (by decide) (by omega));have r:Sz (nN p q) 100000000:=zC f;have h:Sz (nD p q) 100000000:=zB g;have s:=pK (n:=p) b;have o:nN 1 2=1:=by decide
 have e:nD 1 2=2:=by decide
 have j:Sz (2:Int) 1:=n4 (by decide) (by omega);have u:Sz (nN p q*nD 1 2+nN 1 2*nD p q) 100000002:=by
  rw[o,e];refine Sz.add (k:=100000001) ((r.mul j).mono (by omega)) ?_;rw[adu];exact h.mono (by omega)
 have t:Sz (nD p q*nD 1 2) 100000001:=by rw[e];exact(h.mul j).mono (by omega)
 have c:=RE (nN (nN p q*nD 1 2+nN 1 2*nD p q) (nD p q*nD 1 2)) (nD (nN p q*nD 1 2+nN 1 2*nD p q) (nD p q*nD 1 2)) (pK (by grind)) ((zC u).mono (by omega)) ((zB t).mono (by omega));rw[Tf b]at c;generalize nN (nN p q*nD 1 2+nN 1 2*nD p q) (nD p q*nD 1 2)=v at*
 generalize nD (nN p q*nD 1 2+nN 1 2*nD p q) (nD p q*nD 1 2)=rd at*
 have l:=VD;refine aA func108 rfl ntmps108 (aC (k:=di [⟨1,_,_,_,l⟩,⟨2,_,_,_,m⟩,⟨3,_,_,_,c⟩] (k:=aD @results108)))
theorem Fr (p q:Int) (b:0<q) (e:Bh p) (f:Bh q):CallC prog 109 [tZ p,tZ q] ⟨[],tR (nN p q) (nD p q)⟩:=by
 have c:=jz p q b e f;generalize nN p q=h at*
 generalize nD p q=g at*
 refine aA func109 rfl ntmps109 (aC (k:=bL [⟨3,_,_,_,c⟩] (k:=aD @results109)))
def qF (l d:Int):Int:=(2*l+d)/(2*d)
theorem ZT {d:Int} (b:0<d):(2*nN x d+nD x d)/(2*nD x d)=qF x d:=by
 have f:=qD (n:=x) b;have c:=GL (n:=x) (d:=d);have e:=Bt (n:=x) (d:=d);have:(2*nN x d+nD x d)*(Int.gcd x d:Nat)/((2*nD x d)*(Int.gcd x d:Nat))=(2*nN x d+nD x d)/(2*nD x d):=ade _ _ (by omega);simp_all[qF,Int.add_mul,ac9]
def x6 (f:FF):Nat->Nat->Int:=fun a b=>f b a
def GY (f:FF) (i j:Nat):Nat->Nat->Int:=fun a b=>if b<i\/(b=i/\a<j)then f b a else 0
theorem PB (f:FF) (i j a b:Nat):upd (GY f i j) j i (f i j) a b=GY f i (j+1) a b:=by
 unfold upd GY;by_cases c:a=j
 ·subst c;grind
 have:a<j+1↔a<j:=by omega
 simp_all
theorem Tz (f:FF) (i a b:Nat) (e:a<n):GY f i n a b=GY f (i+1) 0 a b:=by
 grind [GY]
theorem Ty (f:FF) (a b:Nat) (c:b<n):GY f n 0 a b=x6 f a b:=by
 grind [GY,x6]
theorem PC (f:FF):GY f 0 0=fun _ _=>0:=by
 grind [GY]
theorem tu (n c:Nat) (f:FF) (h:1<=n) (x:n<=16) (o:1<=c) (w:c<=16) (C: ∀i j:Nat,i<n->j<c->Bg (f i j)):
  CallC prog 114 [da (mat n c f)] ⟨[],.tup [(false,[.p (.sl (ls (fR fZ) (mat c n (x6 f))))]),(false,[.p (.raw (.bool true))])]⟩:=by
 have m:=qc (mat n c f);rw[ig (mA f h x o w),aT,i6 f h]at m;have u:=aT n c f;have v:=vG c n w x;rw[qL,pJ]at v;refine aA func114 rfl ntmps114 (aC (k:=bK [⟨1,_,_,_,m⟩] (k:=ai (bC (k:=aq rfl (ak (bK [⟨2,_,_,_,v⟩] (k:=ai (f9 u (k:=?_))))))))));refine aB (G:=jx n) (fun g=>⟨(da (mat n c f)::j4 (jk::jk::.one (.sl 20 0 0 c)::j4 (j4 (j4 (jk::jk::rN n::rN g.i::j16 (j4 (j4 (jk::jk::jk::[])))))))),Hm [(20,gu 20 c n (GY f g.i 0))]⟩) (fun g=>n-g.i) ⟨0,by omega⟩ ?_ ?_
 ·refine aj ⟨?_,trivial⟩ ?_
  ·rw[PC];exact fk 0 20 c n _
  simp[wk]
 rintro⟨i,D⟩;simp only;by_cases t:i<n
 ·have y:=bF c f t;refine ar (k:=be rfl (ai (am (bC (k:=aL (aH y @aI) (k:=?_))))));refine aB (G:=jx c) (fun g=>⟨(da (mat n c f)::j4 (jk::jk::.one (.sl 20 0 0 c)::rN i::j4 (j4 (j4 (jk::rN n::rN i::j4 (jk::jk::rN c::rN g.i::j16 (jk::jk::jk::[]))))))),Hm [(20,gu 20 c n (GY f i g.i))]⟩) (fun g=>c-g.i) ⟨0,by omega⟩ ?_ ?_
  ·refine aj ⟨rfl,trivial⟩ ?_;simp[wk]
  rintro⟨j,E⟩;simp only;by_cases b:j<c
  ·have s:=aw (f i) b;have m:=Pc (f i j) (C i j t b);have z:=bU (n:=c) (i:=j) 20 n b;have A:=dS n (GY f i j) b;have B:=aw (GY f i j j) t;refine ar (k:=be rfl (ai (am (bC (k:=gX [⟨12,_,_,_,m⟩] (aH z (aH y (aH s (aH A (aH B @iL))))) (k:=bS (k:=?_)))))));refine⟨⟨j+1,by omega⟩,by grind,aj ⟨?_,trivial⟩ ?_⟩
   ·show _::_=_::_;simp_all[bQ,PB]
   simp[wk]
  have r:j=c:=by omega
  subst r;refine ar (k:=bv rfl (bS (k:=?_)));refine⟨⟨i+1,by omega⟩,by grind,aj ⟨?_,trivial⟩ ?_⟩
  ·grind [bQ,Tz]
  simp[wk]
 have q:i=n:=by omega
 subst q;refine ar (k:=bv rfl ?_);show bf _ _ _ _;have e:gu 20 c i (GY f i 0)=gu 20 c i (x6 f):=by
  grind [bQ,Ty]
 rw[e];refine bf.weak ((bD 20 (iK rfl)).trans (aj (tm:=(j4 (jk::jk::jk::da (mat c i (x6 f))::j16 (j16 (j4 (j4 (jk::jk::jk::[]))))))) (l:=[]) trivial (by simp[wk];exact(Rv (H:=Hm [(20,gu 20 c i (x6 f))]) (d:=20) (n:=c) (c:=i) (f:=x6 f) rfl).symm))) ?_;refine bC (k:=aD @results114)
def idF:Nat->Nat->Int:=fun a b=>if a=b then 1 else 0
def Py (i:Nat):Nat->Nat->Int:=fun a b=>if a<i/\a=b then 1 else 0
theorem Pz (i a b:Nat):upd (Py i) i i 1 a b=Py (i+1) a b:=by
 unfold upd Py;by_cases c:a=i
 ·subst c;grind
 have:a<i+1↔a<i:=by omega
 simp_all
theorem Tx (a b:Nat) (c:a<n):Py n a b=idF a b:=by grind [Py,idF]
theorem PA:Py 0=fun _ _=>0:=by rfl
theorem vi (n:Nat) (u:1<=n) (h:n<=16):
  CallC prog 56 [.raw (.int .i64 (n:Int))] ⟨gu 0 n n idF,.tup [(false,[.sl 0 0 0 n]),(false,[.p (.raw (.bool true))])]⟩:=by
 have f:=vG n n h h;rw[qL,pJ]at f;have s:=fc 1 (by omega) (by omega);refine aA func56 rfl ntmps56 (aC (k:=ai (ar (k:=aq rfl (ak (bK [⟨2,_,_,_,f⟩] (k:=ai (bC (k:=?_)))))))));refine aB (G:=jx n) (fun g=>⟨(j4 (.one (.sl 14 0 0 n)::j4 (j4 (jk::jk::jk::rN n::rN g.i::j4 (j4 (jk::jk::jk::[])))))),Hm [(14,gu 14 n n (Py g.i))]⟩) (fun g=>n-g.i) ⟨0,by omega⟩ ?_ ?_
 ·refine aj ⟨?_,trivial⟩ ?_
  ·rw[PA];exact fk 0 14 n n _
  simp[wk]
 rintro⟨i,w⟩;simp only;by_cases c:i<n
 ·have o:=bU (n:=n) (i:=i) 14 n c;have q:=dS n (Py i) c;have r:=aw (Py i i) c;have v:=iL (n:=n) (i:=i) (j:=i) n (Py i) 1;refine ar (k:=be rfl (ai (am (bC (k:=gX [⟨5,_,_,_,s⟩] (aH o (aH q r)) (k:=bS (k:=?_)))))));refine⟨⟨i+1,by omega⟩,by grind,aj ⟨?_,trivial⟩ ?_⟩
  ·show _::_=_::_;simp_all[bQ,Pz]
  simp[wk]
 have b:i=n:=by omega
 subst b;refine ar (k:=bv rfl ?_);show bf _ _ _ _;have e:gu 14 i i (Py i)=gu 14 i i idF:=by
  grind [bQ,Tx]
 rw[e];refine bC (k:=?_);refine aW ⟨.inr rfl,_,bG.refl _,?_⟩;refine⟨.tup [(false,[.sl 14 0 0 i]),(false,[.p (.raw (.bool true))])],14,?_,?_,?_,rfl⟩
 ·simp(disch:=omega) only[kd,results56]
 ·intro t l x m;simp at l;rcases l with rfl|rfl<;>(simp at m;subst m)<;>first|rfl|trivial
 grind [fk]
def js (k:Nat) (f g:FF):Nat->Nat->Int:=fun i j=>fo (aN k (f i)) (aN k (x6 g j)) k
theorem Yp (n k m:Nat) (f g:FF) (v:1<=n) (L:n<=16) (r:1<=k) (K:k<=16) (y:1<=m) (u:m<=16) (S: ∀i j:Nat,i<n->j<k->Sz (f i j) 16777216) (F: ∀i j:Nat,i<k->j<m->Sz (g i j) 16777216):
  CallC prog 115 [da (mat n k f),da (mat k m g)] ⟨[],.tup [(false,[.p (.sl (ls (fR fZ) (mat n m (js k f g))))]),(false,[.p (.raw (.bool true))])]⟩:=by
 have D:=qc (mat n k f);rw[ig (mA f v L r K),aT,i6 f v]at D;have Q:=tu k m g r K y u (fun i j I J=>(F i j I J).mono (by omega));have s:=aT n k f;have t:=aT k m g;have b:=aT m k (x6 g);have E:=vG n m L u;rw[qL,pJ]at E;refine aA func115 rfl ntmps115 (aC (k:=bK [⟨1,_,_,_,D⟩] (k:=bK [⟨1,_,_,_,Q⟩] (k:=ai (aL t (k:=aq rfl (ak (im [⟨4,_,_,_,E⟩] (aH s b) (k:=ai (f9 s (k:=?_)))))))))));refine aB (G:=jx n) (fun q=>⟨(da (mat n k f)::j4 (j4 (da (mat m k (x6 g))::jk::.one (.sl 41 0 0 n)::j16 (j4 (j4 (j4 (jk::jk::jk::rN n::rN q.i::j16 (j4 (j4 (jk::[])))))))))),Hm [(41,gu 41 n m (part (js k f g) q.i 0))]⟩) (fun q=>n-q.i) ⟨0,by omega⟩ ?_ ?_
 ·refine aj ⟨?_,trivial⟩ ?_
  ·rw[zR];exact fk 0 41 n m _
  simp[wk]
 rintro⟨i,I⟩;simp only;by_cases h:i<n
 ·have R:=bF k f h;refine ar (k:=be rfl (ai (am (bC (k:=f9 b (k:=?_))))));refine aB (G:=jx m) (fun q=>⟨(da (mat n k f)::j4 (j4 (da (mat m k (x6 g))::jk::.one (.sl 41 0 0 n)::rN i::j16 (j4 (j4 (j4 (jk::jk::rN n::rN i::jk::jk::jk::rN m::rN q.i::j16 (j4 ([]))))))))),Hm [(41,gu 41 n m (part (js k f g) i q.i))]⟩) (fun q=>m-q.i) ⟨0,by omega⟩ ?_ ?_
  ·refine aj ⟨rfl,trivial⟩ ?_;simp[wk]
  rintro⟨j,J⟩;simp only;by_cases o:j<m
  ·have A:=bF k (x6 g) o;have C:=Yj (aN k (f i)) (aN k (x6 g j)) (by rw[aI];omega) (by grind [aI]) (fun z B=>by
    obtain⟨p,M,rfl⟩:=aau.1 B;grind) (fun z B=>by
    obtain⟨p,M,rfl⟩:=aau.1 B;exact(F p j (aa9.1 M) o).mono (by omega))
   rw[aI,show fo (aN k (f i)) (aN k (x6 g j)) k=js k f g i j from rfl]at C;have N:=bU (n:=n) (i:=i) 41 m h;have O:=dS m (part (js k f g) i j) h;have P:=aw (part (js k f g) i j i) o;refine ar (k:=be rfl (ai (am (bC (k:=gX [⟨13,_,_,_,C⟩] (aH N (aH R (aH A (aH O (aH P @iL))))) (k:=bS (k:=?_)))))));refine⟨⟨j+1,by omega⟩,by grind,aj ⟨?_,trivial⟩ ?_⟩
   ·show _::_=_::_;grind [bQ,iF]
   simp[wk]
  have x:j=m:=by omega
  subst x;refine ar (k:=bv rfl (bS (k:=?_)));refine⟨⟨i+1,by omega⟩,by grind,aj ⟨?_,trivial⟩ ?_⟩
  ·grind [bQ,kf]
  simp[wk]
 have w:i=n:=by omega
 subst w;refine ar (k:=bv rfl ?_);show bf _ _ _ _;have e:gu 41 i m (part (js k f g) i 0)=gu 41 i m (js k f g):=by
  grind [bQ,ke]
 rw[e];refine bf.weak ((bD 41 (iK rfl)).trans (aj (tm:=(j4 (j4 (jk::jk::jk::da (mat i m (js k f g))::j16 (j16 (j16 (j4 (j4 (jk::jk::[]))))))))) (l:=[]) trivial (by simp[wk];exact(Rv (H:=Hm [(41,gu 41 i m (js k f g))]) (d:=41) (n:=i) (c:=m) (f:=js k f g) rfl).symm))) ?_;refine bC (k:=aD @results115)
theorem r6 (n k m:Nat) (f g:FF) (h:1<=n) (r:n<=16) (b:1<=k) (q:k<=16) (c:1<=m) (e:m<=16) (o: ∀i j:Nat,i<n->j<k->Sz (f i j) 16777216) (p: ∀i j:Nat,i<k->j<m->Sz (g i j) 16777216):
  CallC prog 60 [da (mat n k f),da (mat k m g)] ⟨[],da (mat n m (js k f g))⟩:=by
 have l:=Yp n k m f g h r b q c e o p;refine aA func60 rfl ntmps60 (aC (k:=bK [⟨2,_,_,_,l⟩] (k:=bC (k:=aD @results60))))
theorem Te {k:Nat} {f g:FF} {b c i:Nat} (m: ∀p,p<k->Sz (f i p) b) (l: ∀p,p<k->Sz (g p n) c):Sz (js k f g i n) (b+c+k):=by
 refine AI (uD fun z e=>?_) (uD fun z e=>?_) k
 ·obtain⟨p,h,rfl⟩:=aau.1 e;grind
 obtain⟨p,h,rfl⟩:=aau.1 e;exact l p (aa9.1 h)
def F3 (n:Nat) (h t:FF):Nat->Nat->Int:=js n (js n (x6 t) h) t
theorem Ct (n:Nat) (h t:FF) (e:1<=n) (l:n<=16) (q: ∀i j:Nat,i<n->j<n->Sz (h i j) 500) (m: ∀i j:Nat,i<n->j<n->Sz (t i j) 500):
  CallC prog 59 [da (mat n n h),da (mat n n t)] ⟨[],da (mat n n (F3 n h t))⟩:=by
 have r:=tu n n t e l e l (fun i j f g=>(m i j f g).mono (by omega));have s:=r6 n n n (x6 t) h e l e l e l (fun i j f g=>(m j i g f).mono (by omega)) (fun i j f g=>(q i j f g).mono (by omega));have u:=r6 n n n (js n (x6 t) h) t e l e l e l (fun i j f g=>(Te (b:=500) (c:=500) (fun p o=>m p i o f) (fun p o=>q p j o g)).mono (by omega)) (fun i j f g=>(m i j f g).mono (by omega));refine aA func59 rfl ntmps59 (aC (k:=bK [⟨1,_,_,_,r⟩] (k:=bK [⟨2,_,_,_,s⟩,⟨4,_,_,_,u⟩] (k:=aD (aH @results59 @F3.eq_1)))))
def smF (F:Nat->Int):Nat->Int
 |0=>0
 |k+1=>smF F k+F k
theorem aF {F G:Nat->Int}: ∀k,(∀p,p<k->F p=G p)->smF F k=smF G k
 |0,_=>rfl
 |k+1,h=>by rw[smF,smF,aF k (fun p b=>h p (by omega)),h k (by omega)]
theorem mJ (F G:Nat->Int): ∀k,smF (fun p=>F p+G p) k=smF F k+smF G k
 |0=>rfl
 |k+1=>by rw[smF,smF,smF,mJ F G k];omega
theorem dC: ∀k,smF (fun _=>0) k=0
 |0=>rfl
 |k+1=>by rw[smF,dC k];rfl
theorem kT {F:Nat->Int} {a:Nat}: ∀{k},a<k->(∀p,p<k->p≠a->F p=0)->smF F k=F a
 |k+1,h,b=>by
  by_cases e:a=k
  ·subst e;rw[smF,aF a (G:=fun _=>0) (fun p f=>b p (by omega) (by omega)),dC];omega
  rw[smF,kT (show a<k by omega) (fun p f c=>b p (by omega) c),b k (by omega) (by omega)];omega
theorem qm {k:Nat} (x y:Nat->Int): ∀l,l<=k->fo (aN k x) (aN k y) l=smF (fun p=>x p*y p) l
 |0,_=>rfl
 |l+1,h=>by
  show fo (aN k x) (aN k y) l+(aN k x).getD l 0*(aN k y).getD l 0=_;rw[qm x y l (by omega),aaw,aaw,aw _ (by omega),aw _ (by omega)];rfl
theorem qQ (k:Nat) (f g:FF) (i j:Nat):js k f g i j=smF (fun p=>f i p*g p j) k:=qm _ _ k (aar _)
def Rt (i j:Nat) (c:Int):Nat->Nat->Int:=upd idF j i c
def Qs (m:Nat):Nat->Nat->Int:=fun a=>idF (pX m a)
theorem TW (m a:Nat):pX m (pX m a)=a:=by
 grind [pX]
theorem VY {i:Nat} (f:n≠i) (p b:Nat):Rt i n x p b=idF p b+(if p=n then(if b=i then x else 0)else 0):=by
 unfold Rt upd idF;by_cases e:p=n
 ·subst e;grind
 simp[e]
theorem Qr {y:Nat->Int} (c:m<n):smF (fun p=>y p*idF p m) n=y m:=by
 grind [kT,idF]
theorem GJ {i:Nat} {c:Int} (e:m≠i) (g:m<n) (x:FF) (a b:Nat) (f:b<n):js n x (Rt i m c) a b=x a b+(if b=i then c*x a m else 0):=by
 rw[qQ,aF n (G:=fun p=>x a p*idF p b+x a p*(if p=m then(if b=i then c else 0)else 0)) (fun p _=>by rw[VY e,Int.mul_add]),mJ,Qr f];grind [kT]
theorem VZ {i:Nat} (f:m≠i) (h:m<n) (e:FF) (a b:Nat) (g:a<n):js n (x6 (Rt i m x)) e a b=e a b+(if a=i then x*e m b else 0):=by
 have:=GJ (c:=x) f h (x6 e) b a g;grind [qQ,x6]
theorem Sr {i:Nat} (e:m≠i) (l:m<n) (f:FF) (a b:Nat) (g:a<n) (h:b<n):F3 n f (Rt i m x) a b=eQ f i m x a b:=by
 unfold F3;grind [GJ,VZ,eQ]
theorem SS (m p b:Nat):idF (pX m p) b=idF p (pX m b):=by
 grind [idF,TW]
theorem GK (e:m+1<n) (x:FF) (a b:Nat) (c:b<n):js n x (Qs m) a b=x a (pX m b):=by
 rw[qQ,aF n (G:=fun p=>x a p*idF p (pX m b)) (fun p _=>by rw[<- SS];rfl),Qr (pY e c)]
theorem Xy (e:m+1<n) (x:FF) (a b:Nat) (c:a<n):js n (x6 (Qs m)) x a b=x (pX m a) b:=by
 have:=GK e (x6 x) b a c;grind [qQ,x6]
theorem Wo (c:m+1<n) (f:FF) (a b:Nat) (e:a<n) (g:b<n):F3 n f (Qs m) a b=lj f m a b:=by
 unfold F3;rw[GK c _ a b g,Xy c f a _ e];rfl
/-! Which change is made. -/
inductive Ch where
 |add (i j:Nat)
 |swp (m:Nat)
instance (f:FF) (i j:Nat):Decidable (SizF f i j):=by unfold SizF;exact inferInstance
instance (f:FF) (i:Nat):Decidable (LovF f i):=by unfold LovF;exact inferInstance
def scanJ (f:FF) (i:Nat):Nat->Option Nat
 |0=>none
 |j+1=>if SizF f i j then scanJ f i j else some j
def scanI (f:FF):Nat->Nat->Option Ch
 |0,_=>none
 |m+1,i=>match scanJ f i i with
  |some j=>some (.add i j)
  |none=>if 0<i/\ ¬LovF f i then some (.swp (i-1))else scanI f m (i+1)
def scanF (f:FF) (n:Nat):Option Ch:=scanI f n 0
theorem mH {f:FF} {i:Nat}: ∀{k},scanJ f i k=none-> ∀j,j<k->SizF f i j
 |k+1,h,j,b=>by
  unfold scanJ at h;split at h
  ·rename_i c;by_cases e:j=k
   ·grind
   exact mH h j (by omega)
  cases h
theorem xK {f:FF} {i j:Nat}: ∀{k},scanJ f i k=some j->j<k/\ ¬SizF f i j/\ ∀b,j<b->b<k->SizF f i b
 |k+1,h=>by
  unfold scanJ at h;split at h
  ·rename_i l;obtain⟨c,e,g⟩:=xK h;grind
  grind
def tp (f:FF) (i:Nat):Prop:=(∀j,j<i->SizF f i j)/\(0<i->LovF f i)
theorem xI {f:FF}: ∀{m i},scanI f m i=none-> ∀b,i<=b->b<i+m->tp f b
 |0,i,_,b,c,g=>by omega
 |m+1,i,h,b,c,g=>by
  unfold scanI at h;split at h
  ·cases h
  rename_i j;split at h
  ·cases h
  rename_i n;by_cases e:b=i
  ·subst e;exact⟨mH j,fun l=>by
    grind⟩
  exact xI h b (by omega) (by omega)
def Zh (f:FF):Ch->Prop
 | .add i j=>j<i/\ ¬SizF f i j/\(∀c,j<c->c<i->SizF f i c)/\ ∀b,b<i->tp f b
 | .swp m=> ¬LovF f (m+1)/\(∀j,j<m+1->SizF f (m+1) j)/\ ∀b,b<m+1->tp f b
def IB:Ch->Nat
 | .add i _=>i
 | .swp m=>m+1
theorem xJ {f:FF} {c:Ch}: ∀{m i},(∀b,b<i->tp f b)->scanI f m i=some c->Zh f c/\IB c<i+m
 |m+1,i,p,h=>by
  unfold scanI at h;split at h
  ·rename_i j g;injection h with h
   subst h;obtain⟨l,n,o⟩:=xK g;exact⟨⟨l,n,o,p⟩,by simp[IB]⟩
  rename_i g;split at h
  ·rename_i q;injection h with h
   subst h;have e:i-1+1=i:=by omega
   refine⟨⟨by grind,by grind [mH],by grind⟩,by grind [IB]⟩
  rename_i q;have:=xJ (m:=m) (i:=i+1) (fun b r=>by
   by_cases e:b=i
   ·subst e;exact⟨mH g,fun s=>by
     grind⟩
   grind) h
  grind
theorem iH {c:Ch} (h:scanF b n=some c):Zh b c/\IB c<n:=by
 have:=xJ (f:=b) (m:=n) (i:=0) (fun e h=>by omega) h;grind
theorem G9 (h:scanF b n=none):VJ b n:=fun i c=>xI (m:=n) (i:=0) h i (by omega) (by omega)
def x7 (i:Nat):Nat:=i*(i-1)/2
def Ed:Ch->Nat
 | .add i j=>x7 i+(i-1-j)
 | .swp m=>x7 (m+2)
theorem lY (i:Nat):x7 (i+1)=x7 i+i:=by
 unfold x7;cases i with
 |zero=>rfl
 |succ i=>
  grind
theorem jV {i:Nat} (h:i<=n):x7 i<=x7 n:=by
 induction n with
 |zero=>grind
 |succ n b=>
  grind [lY]
def rankF (f:FF) (n:Nat):Nat:=match scanF f n with
 |some c=>Ed c
 |none=>x7 n
theorem xq (f:FF) (n:Nat):rankF f n<=x7 n:=by
 unfold rankF;split
 ·rename_i c e;obtain⟨g,b⟩:=iH e;cases c with
  |add i j=>
   have b:i<n:=b;have:=jV (show i+1<=n by omega);grind [lY,Ed]
  |swp m=>
   have b:m+1<n:=b;exact jV (show m+2<=n by omega)
 omega
theorem TD {i:Nat} (z:m<i) (y:i<n) (s: ∀g,g<i->tp b g) (x: ∀l,m<=l->l<i->SizF b i l):x7 i+(i-1-m)<rankF b n:=by
 have p:=jV (show i+1<=n by omega);rw[lY]at p;unfold rankF;split
 ·rename_i c u;obtain⟨r,w⟩:=iH u;cases c with
  |add g l=>
   obtain⟨o,q,t,v⟩:=r;simp only[Ed];rcases aby g i with h|h|h
   ·exact absurd ((s g h).1 l o) q
   ·grind
   have:=jV (show i+1<=g by omega);grind [lY]
  |swp e=>
   obtain⟨o,q,t⟩:=r;simp only[Ed];by_cases h:e+1<i
   ·exact absurd ((s (e+1) h).2 (by omega)) o
   have:=jV (show i+1<=e+2 by omega);grind [lY]
 omega
section
theorem C3 {d1 d0 u v:Int} (j:0<d1) (c:d0.natAbs<=n) (h:d1*x=d0*y+u*v):x.natAbs<=n*y.natAbs+u.natAbs*v.natAbs:=by
 have e:d1.natAbs*x.natAbs=(d0*y+u*v).natAbs:=by rw[<- abk,h]
 have b:=adt (d0*y) (u*v);rw[abk,abk]at b;have f:d0.natAbs*y.natAbs<=n*y.natAbs:=aav _ c;have g:x.natAbs<=d1.natAbs*x.natAbs:=acC _ (by omega);omega
theorem O8 {d1 d0 l:Int} (c:0<d1) (b:0<d0) (e:0<x) (f:0<y) (h:d1*x=d0*y+l*l):d1.natAbs*x.natAbs=d0.natAbs*y.natAbs+l.natAbs*l.natAbs:=by
 grind [Int.natAbs_mul_self']
structure Def (f:FF) (n B:Nat):Prop where
 sym:SymF f n
 pos: ∀t,t<n->0<dk f (t+1)
 le: ∀k,k<=n->(dk f k).natAbs<=B
section
variable {f:FF} {n B:Nat}
theorem Def.ne (h:Def f n B): ∀t,t<n->dk f (t+1)≠0:=fun t b=>by have:=h.pos t b;omega
theorem Def.pos0 (h:Def f n B) {k:Nat} (b:k<=n):0<dk f k:=by
 cases k with
 |zero=>rw[cu];omega
 |succ k=>exact h.pos k (by omega)
theorem Def.sylv (h:Def f n B) {k a b:Nat} (e:k<n) (j:a<n) (c:b<n):dk f (k+1)*bk f k a b=dk f k*bk f (k+1) a b+bk f k a k*bk f k b k:=by
 have s:=Go.Proofs.YtalmoejhjceflaaGreat.sylv f k (fun t g=>h.ne t (by omega)) a b;rw[jo h.sym k (by omega) (fun t g=>h.ne t (by omega)) k b e c]at s;omega
theorem Def.diag (h:Def f n B) {a:Nat} (b:a<n): ∀m k,a-k=m->k<=a->0<bk f k a a
 |0,k,e,c=>by
  have:k=a:=by omega
  subst this;rw[<- cd];exact h.pos k b
 |m+1,k,e,c=>by
  have g:=h.diag b m (k+1) (by omega) (by omega);have s:=h.sylv (k:=k) (by omega) b b;have l:=h.pos k (by omega);have j:=h.pos0 (k:=k) (by omega);have o:=ad0 j g;have p:0<=bk f k a k*bk f k a k:=by
   rcases abU 0 (bk f k a k)with h|h
   ·exact aaS h h
   exact aaU h h
  rcases acp 0 (bk f k a a)with h|h
  ·exact h
  have:=acY (abT l) h;omega
theorem Def.down (h:Def f n B) {a k:Nat} (b:a<n) (e:k<a):(bk f k a k).natAbs*(bk f k a k).natAbs<=B*(bk f k a a).natAbs/\(bk f (k+1) a a).natAbs<=B*(bk f k a a).natAbs:=by
 have s:=O8 (h.pos k (by omega)) (h.pos0 (k:=k) (by omega)) (h.diag b _ k rfl (by omega)) (h.diag b _ (k+1) rfl (by omega)) (h.sylv (k:=k) (by omega) b b);have c:=aav (bk f k a a).natAbs (h.le (k+1) (by omega));have g:=h.pos0 (k:=k) (by omega);have:=acC (bk f (k+1) a a).natAbs (show 0<(dk f k).natAbs by omega);omega
theorem Def.nm (h:Def f n B) {a:Nat} (b:a<n): ∀k,k<=a->(bk f k a a).natAbs<=B^k*(f a a).natAbs
 |0,_=>by rw[dc];simp
 |k+1,g=>by
  have c:=(h.down b (show k<a by omega)).2;have e:=aas B (h.nm b k (by omega));grind
theorem Def.lam_le (h:Def f n B) {a k:Nat} (b:a<n) (j:k<a) (e:1<=B) (g:(f a a).natAbs<=m):(bk f k a k).natAbs<=B^n*m:=by
 have l:=(h.down b j).1;have o:=aas B (h.nm b k (by omega));have p:(bk f k a k).natAbs<=(bk f k a k).natAbs*(bk f k a k).natAbs:=Nat.le_mul_self _;have q:B*(B^k*(f a a).natAbs)=B^(k+1)*(f a a).natAbs:=by grind
 have c:B^(k+1)<=B^n:=aaJ e (by omega);have r:B^(k+1)*(f a a).natAbs<=B^n*m:=aaT c g;omega
theorem Def.up (h:Def f n B) {a L:Nat} (b:a<n) (c: ∀k,k<a->(bk f k a k).natAbs<=L): ∀m k,a-k=m->k<=a->(bk f k a a).natAbs<=(B+L*L)*(B+1)^m
 |0,k,j,g=>by
  have:k=a:=by omega
  subst this;rw[<- cd];have:=h.le (k+1) (by omega)
  simp;omega
 |m+1,k,j,g=>by
  have l:=h.up b c m (k+1) (by omega) (by omega);have s:=C3 (h.pos k (by omega)) (h.le k (by omega)) (h.sylv (k:=k) (by omega) b b);have e:=c k (by omega);have o:=aaT e e;have p:=aas B l;have q:L*L<=(B+L*L)*(B+1)^m:=aap (by omega) (abz _ (abh (by omega)));grind [Nat.mul_add]
theorem Def.norm_le (h:Def f n B) {a:Nat} (e:a<n) (c: ∀k,k<a->(bk f k a k).natAbs<=m):(f a a).natAbs<=(B+m*m)*(B+1)^n:=by
 have b:=h.up e c a 0 rfl (by omega);rw[dc]at b;exact aap b (aas _ (aaJ (by omega) (by omega)))
theorem Def.ent_up (h:Def f n B) {a b L:Nat} (e:a<n) (g:b<a) (c: ∀a k,a<n->k<a->(bk f k a k).natAbs<=L): ∀m k,b-k=m->k<=b->(bk f k a b).natAbs<=(L+L*L)*(B+1)^m
 |0,k,l,j=>by
  grind
 |m+1,k,l,j=>by
  have o:=h.ent_up e g c m (k+1) (by omega) (by omega);have s:=C3 (h.pos k (by omega)) (h.le k (by omega)) (h.sylv (k:=k) (a:=a) (b:=b) (by omega) e (by omega));have p:=aaT (c a k e (by omega)) (c b k (by omega) (by omega));have q:=aas B o;have r:L*L<=(L+L*L)*(B+1)^m:=aap (by omega) (abz _ (abh (by omega)));grind [Nat.mul_add]
theorem Def.ent_le (h:Def f n B) (l: ∀a k,a<n->k<a->(bk f k a k).natAbs<=m) {a b:Nat} (c:a<n) (j:b<n):(f a b).natAbs<=(B+m+m*m)*(B+1)^n:=by
 have key: ∀a b,a<n->b<a->(f a b).natAbs<=(B+m+m*m)*(B+1)^n:=fun a b c j=>by
  have g:=h.ent_up c j l b 0 rfl (by omega);rw[dc]at g;refine aap g (aaT (by omega) (aaJ (by omega) (by omega)))
 rcases aby a b with e|e|e
 ·rw[h.sym a c b j];grind
 ·subst e;have g:=h.norm_le c (fun k o=>l a k c o);grind
 grind
end
/-! The numbers of the reduction. -/
section
variable {f:FF} {n B:Nat}
def cN (n B:Nat):Nat:=(B+B*B)*(B+1)^n
def l0 (n B:Nat):Nat:=B^n*cN n B
theorem xR (h:Def f n B) {i:Nat} (b:i<n) (c:m<i):SizF f i m↔2*((bk f m i m).natAbs:Int)<=dk f (m+1):=by
 rw[SizF,pC h.pos (by omega),kE h.pos (by omega)]
theorem GF (h:Def f n B) {i:Nat} (c:i<n) (b:0<i):LovF f i↔3*(dk f i*dk f i)<=4*(dk f (i-1)*dk f (i+1)+bk f (i-1) i (i-1)*bk f (i-1) i (i-1)):=by
 rw[LovF,pC h.pos (by omega),kE h.pos (by omega),kE h.pos (by omega),kE h.pos (by omega)]
theorem Hd (h:Def f n B) {i:Nat} (b:i<n) (c:m<i) (e:SizF f i m):(bk f m i m).natAbs<=B:=by
 have g:=(xR h b c).1 e;have l:=h.le (m+1) (by omega);omega
theorem s9 (h:Def f n B) {i:Nat} (b:i<n) (e: ∀j,j<i->SizF f i j):(f i i).natAbs<=cN n B:=h.norm_le b fun k c=>Hd h b c (e k c)
def Jn (f:FF) (n B:Nat):Prop:=(∀a,a<n->(f a a).natAbs<=cN n B)\/
 ∃i,i<n/\(∀a,a<n->a≠i->(f a a).natAbs<=cN n B)/\(∀c,c<i->tp f c)/\ ∃s,s<=i/\(∀b,s<=b->b<i->SizF f i b)/\ ∀k,k<i->(bk f k i k).natAbs+2<=(l0 n B+2)*(B+2)^(i-s)
def lM (n B:Nat):Nat:=(l0 n B+2)*(B+2)^n
theorem Jn.lam (h:Def f n B) (l:1<=B) (c:Jn f n B): ∀a k,a<n->k<a->(bk f k a k).natAbs<=lM n B:=by
 have j:l0 n B<=lM n B:=aap (by omega) (abz _ (abh (by omega)));have o: ∀e,e<=n->(l0 n B+2)*(B+2)^e<=lM n B:=fun e m=>aas _ (aaJ (by omega) m)
 rcases c with c|⟨i,p,c,_,s,r,_,q⟩
 ·exact fun a k b g=>aap (h.lam_le b g l (c a b)) j
 intro a k b g;by_cases e:a=i
 ·grind
 exact aap (h.lam_le b g l (c a b e)) j
def eN (n B:Nat):Nat:=(B+lM n B+lM n B*lM n B)*(B+1)^n
theorem Jn.ent (h:Def f n B) (c:1<=B) (j:Jn f n B) {a:Nat} (e:a<n) (g:m<n):(f a m).natAbs<=eN n B:=h.ent_le (j.lam h c) e g
end
end
end Go.Proofs.YtalmoejhjceflaaGreat
