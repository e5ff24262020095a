/-
  Part 31 of a proof (walks and plain facts).
-/
import Derived.Test.YtalmoejhjceflaaGreatQ29
set_option linter.all false
set_option maxRecDepth 100000
set_option maxHeartbeats 64000000
namespace Go.Proofs.YtalmoejhjceflaaGreat
open Go.RowKit Go.Proofs.Tryz
variable {n m:Nat} {x y:Int} {b:FF}
theorem abd (a b:Int) (c:b≠0) (f:Bh a) (g:Bh b):CallC prog 253 [tZ a,tZ b] ⟨[],tZ (a%b)⟩:=by
 have e:=Fp a b c f g;refine ax func253 rfl ntmps253 (aA (k:=bE [⟨2,_,_,_,e⟩] (k:=ar (k:=aE @results253))))
structure GcG (a b:Int) where
 x:Int
 y:Int
 hx:0<=x
 hy:0<=y
 hg:Int.gcd x y=Int.gcd a b
 sx:Bh x
 sy:Bh y
theorem RL (b:0<=x) (c:0<=y):Int.gcd y (x%y)=Int.gcd x y:=by
 obtain⟨m,rfl⟩:=acO b;obtain⟨n,rfl⟩:=acO c;show Nat.gcd n (m%n)=Nat.gcd m n;grind [Nat.gcd_comm,Nat.gcd_rec]
theorem aa9 (a b:Int) (l:Bh a) (m:Bh b):CallC prog 242 [tZ a,tZ b] ⟨[],tZ (Int.gcd a b:Nat)⟩:=by
 have n:=QH a l.bg;have o:=QH b m.bg;refine ax func242 rfl ntmps242 (aA (k:=da [⟨1,_,_,_,n⟩,⟨3,_,_,_,o⟩] (k:=?_)));refine ai (ay (G:=GcG a b) (fun g=>⟨(j4 (.one (.ptr 4 0 0 0)::.one (.ptr 5 0 0 0)::.one (.ptr 6 0 0 0)::j4 (j4 (j4 ([]))))),Hm [(4,ru),(5,vz g.x),(6,vz g.y)]⟩) (fun g=>g.y.natAbs) ⟨a.natAbs,b.natAbs,by omega,by omega,by simp;rfl,l.le (by omega),m.le (by omega)⟩ ?_ ?_)
 ·refine aj ⟨rfl,rfl,rfl,trivial⟩ ?_;simp[wk]
 rintro⟨x,y,v,r,t,s,f⟩;simp only;have j:=kW y f.bg;by_cases c:y=0
 ·subst c;refine ai (cj [⟨1,_,_,_,j⟩] @ES (k:=ao rfl (aX ?_)));show bA _ _ _ _;have e:((Int.gcd a b:Nat):Int)=x:=by grind [Int.gcd_zero_right]
  rw[e];refine ar (k:=aE @results242)
 have u:=Hz c;have p:=abd x y c s f;have q:=afL x (show 0<y by omega);have h:=age x c;refine ai (bE [⟨1,_,_,_,j⟩] (k:=az rfl (ak (am (Zh [⟨3,_,_,_,p⟩] (k:=?_))))));refine⟨⟨y,x%y,r,h,by grind [RL],f,f.le (by omega)⟩,by grind,aj ⟨rfl,by simp_all[aF],by simp_all[aF],trivial⟩ ?_⟩;simp[wk]
def cR (n d:Int):List AV:=[.p (.raw (.bool (decide (n<0)))),.p (.sl (ls fU (au n.natAbs))),.p (.raw (.bool (decide (d<0)))),.p (.sl (ls fU (au d.natAbs)))]
def nN (n d:Int):Int:=n/(Int.gcd n d:Nat)
def nD (n d:Int):Int:=d/(Int.gcd n d:Nat)
theorem uc {n d:Int} (b:0<d):0<Int.gcd n d:=Int.gcd_pos_of_ne_zero_right n (by omega)
theorem J3 {n d:Int}:nN n d*(Int.gcd n d:Nat)=n:=agy (Int.gcd_dvd_left n d)
theorem El {n d:Int}:nD n d*(Int.gcd n d:Nat)=d:=agy (Int.gcd_dvd_right n d)
theorem sM {n d:Int} (c:0<d):0<nD n d:=by
 have h:=El (n:=n) (d:=d);have e:=uc (n:=n) c;rcases aem 0 (nD n d)with b|b
 ·exact b
 have:=Int.mul_nonpos_of_nonpos_of_nonneg b (show(0:Int)<=(Int.gcd n d:Nat) by omega);omega
theorem MB {d:Int} (b:0<d):nN x d/nD x d=x/d:=by
 grind [Int.mul_ediv_mul_of_pos_left,J3,El]
theorem CL {d:Int} {k:Nat} (h:Sz x k):Sz (nN x d) k:=h.ediv _
theorem CK {d:Int} {k:Nat} (h:Sz d k):Sz (nD x d) k:=h.ediv _
theorem X7 (n d:Int) (b:0<d) (j:Bh n) (c:Bh d):CallC prog 206 [tZ n,tZ d] ⟨[],.tup [(true,cR (nN n d) (nD n d)),(false,[.p (.raw (.bool true))])]⟩:=by
 have e:=kW d c.bg;rw[Tx b]at e;have l:=aa9 n d j c;have o:=uc (n:=n) b;have sg:Bh (Int.gcd n d:Nat):=c.le (by
  have:=Nat.le_of_dvd (by omega) (Int.gcd_dvd_natAbs_right n d);omega)
 have f:=wO n (Int.gcd n d:Nat) (by omega) j sg;have h:=wO d (Int.gcd n d:Nat) (by omega) c sg;rw[show n/(Int.gcd n d:Nat)=nN n d from rfl]at f;rw[show d/(Int.gcd n d:Nat)=nD n d from rfl]at h;generalize((Int.gcd n d:Nat):Int)=g at*
 generalize nN n d=q at*
 generalize nD n d=m at*
 refine ax func206 rfl ntmps206 (aA (k:=ai (bE [⟨1,_,_,_,e⟩] (k:=ao rfl (ak (ai (bE [⟨1,_,_,_,e⟩] (k:=ao rfl (ak (bE [⟨2,_,_,_,l⟩] (k:=da [⟨2,_,_,_,f⟩,⟨5,_,_,_,h⟩] (k:=aE (aC @results206 @cR.eq_1)))))))))))))
theorem kZ (n d:Int) (b:0<d) (f:Bh n) (e:Bh d):CallC prog 162 [tR n d] ⟨[],tR (nN n d) (nD n d)⟩:=by
 have c:=X7 n d b f e;generalize nN n d=h at*
 generalize nD n d=g at*
 refine ax func162 rfl ntmps162 (aA (k:=cj [⟨4,_,_,_,c⟩] @cR.eq_1 (k:=ai (bi (k:=ao rfl (ak (ar (k:=aE @results162))))))))
theorem Y2:CallC prog 161 [] ⟨[],tR 1 2⟩:=by
 have b:=fh 1 (by omega) (by omega);have c:=fh 2 (by omega) (by omega);refine ax func161 rfl ntmps161 (aA (k:=bE [⟨0,_,_,_,b⟩,⟨1,_,_,_,c⟩] (k:=aE @results161)))
theorem UX (n d:Int) (b:0<d) (f:Bh n) (e:Bh d):CallC prog 159 [tR n d] ⟨[],tZ (n/d)⟩:=by
 have g:=kZ n d b f e;have c:=wO (nN n d) (nD n d) (by have:=sM (n:=n) b;omega) (CL f) (CK e);rw[MB b]at c;generalize nN n d=j at*
 generalize nD n d=h at*
 refine ax func159 rfl ntmps159 (aA (k:=bE [⟨1,_,_,_,g⟩] (k:=bE [⟨4,_,_,_,c⟩] (k:=aE @results159))))
abbrev abV:List OObj:=[⟨143,4,[[.raw (.bool false),.raw (.slice none 0 0),.raw (.bool false),.raw (.slice none 0 0)]]⟩]
abbrev bxR (n d:Int):List OObj:=[⟨143,4,[[.p (.raw (.bool (decide (n<0)))),.p (.sl (ls fU (au n.natAbs))),.p (.raw (.bool false)),.p (.sl (ls fU (au d.natAbs)))]]⟩]
theorem YV (a b c d:Int) (e:0<b) (f:0<d) (j:Sz a 100000000) (m:Sz b 100000000) (o:Sz c 100000000) (p:Sz d 100000000):
  CallC prog 160 [tR a b,tR c d] ⟨[],tR (nN (nN a b*nD c d+nN c d*nD a b) (nD a b*nD c d)) (nD (nN a b*nD c d+nN c d*nD a b) (nD a b*nD c d))⟩:=by
 have w:=kZ a b e (j.mono (by omega)) (m.mono (by omega));have z:=kZ c d f (o.mono (by omega)) (p.mono (by omega));have r:Sz (nN a b) 100000000:=CL j;have h:Sz (nD a b) 100000000:=CK m;have q:Sz (nN c d) 100000000:=CL o;have g:Sz (nD c d) 100000000:=CK p;have G:=sM (n:=a) e;have F:=sM (n:=c) f;generalize nN a b=x at*
 generalize nD a b=y at*
 generalize nN c d=u at*
 generalize nD c d=v at*
 have s:Sz (x*v) 200000000:=(r.mul g).mono (by omega);have t:Sz (u*y) 200000000:=(q.mul h).mono (by omega);have H:Sz (x*v+u*y) 200000001:=s.add t;have I:Sz (y*v) 200000000:=(h.mul g).mono (by omega);have A:=io x v (r.mono (by omega)) (g.mono (by omega));have B:=io u y (q.mono (by omega)) (h.mono (by omega));have C:=rD (x*v) (u*y) (s.mono (by omega)) (t.mono (by omega));have D:=io y v (h.mono (by omega)) (g.mono (by omega));have E:=X7 (x*v+u*y) (y*v) (afT G F) (H.mono (by omega)) (I.mono (by omega));generalize nN (x*v+u*y) (y*v)=J at*
 generalize nD (x*v+u*y) (y*v)=rd at*
 refine ax func160 rfl ntmps160 (aA (k:=da [⟨1,_,_,_,w⟩,⟨3,_,_,_,z⟩] (k:=?_)));refine bA.weak (aj (tm:=(j4 (.one (.ptr 4 0 0 0)::.one (.ptr 5 0 0 0)::.one (.ptr 6 0 0 0)::j16 (j4 (j4 (jk::jk::jk::[])))))) (l:=[(4,abV),(5,bxR x y),(6,bxR u v)]) ⟨rfl,rfl,rfl,trivial⟩ (by simp[wk])) ?_;refine ch [⟨4,_,_,_,A⟩,⟨9,_,_,_,B⟩,⟨10,_,_,_,C⟩,⟨15,_,_,_,D⟩,⟨16,_,_,_,E⟩] @cR.eq_1 (k:=ar (k:=aE @results160))
theorem Wj (b:0<y):nN (nN x y*nD 1 2+nN 1 2*nD x y) (nD x y*nD 1 2)/nD (nN x y*nD 1 2+nN 1 2*nD x y) (nD x y*nD 1 2)=(2*x+y)/(2*y):=by
 have c:nN 1 2=1:=by decide
 have e:nD 1 2=2:=by decide
 have j:=sM (n:=x) b;rw[c,e,MB (by omega)];have h:=uc (n:=x) b;have f:=J3 (n:=x) (d:=y);have g:=El (n:=x) (d:=y);have:(nN x y*2+1*nD x y)*(Int.gcd x y:Nat)/((nD x y*2)*(Int.gcd x y:Nat))=(nN x y*2+1*nD x y)/(nD x y*2):=afz _ _ (by omega);rw[<- this]
 congr 1
 ·grind
 grind
theorem Nm (p q:Int) (b:0<q) (f:Sz p 100000000) (g:Sz q 100000000):CallC prog 108 [tR p q] ⟨[],tZ ((2*p+q)/(2*q))⟩:=by
 have m:=YV p q 1 2 b (by omega) f g (pb (by omega)) (kO (by decide) (by omega));have r:Sz (nN p q) 100000000:=CL f;have h:Sz (nD p q) 100000000:=CK g;have s:=sM (n:=p) b;have o:nN 1 2=1:=by decide
 have e:nD 1 2=2:=by decide
 have j:Sz (2:Int) 1:=kO (by decide) (by omega);have u:Sz (nN p q*nD 1 2+nN 1 2*nD p q) 100000002:=by
  rw[o,e];refine Sz.add (k:=100000001) ((r.mul j).mono (by omega)) ?_;rw[afV];exact h.mono (by omega)
 have t:Sz (nD p q*nD 1 2) 100000001:=by rw[e];exact(h.mul j).mono (by omega)
 have c:=UX (nN (nN p q*nD 1 2+nN 1 2*nD p q) (nD p q*nD 1 2)) (nD (nN p q*nD 1 2+nN 1 2*nD p q) (nD p q*nD 1 2)) (sM (by grind)) ((CL u).mono (by omega)) ((CK t).mono (by omega));rw[Wj b]at c;generalize nN (nN p q*nD 1 2+nN 1 2*nD p q) (nD p q*nD 1 2)=v at*
 generalize nD (nN p q*nD 1 2+nN 1 2*nD p q) (nD p q*nD 1 2)=rd at*
 have l:=Y2;refine ax func108 rfl ntmps108 (aA (k:=da [⟨1,_,_,_,l⟩,⟨2,_,_,_,m⟩,⟨3,_,_,_,c⟩] (k:=aE @results108)))
theorem rO (p q:Int) (b:0<q) (e:Bh p) (f:Bh q):CallC prog 109 [tZ p,tZ q] ⟨[],tR (nN p q) (nD p q)⟩:=by
 have c:=kZ p q b e f;generalize nN p q=h at*
 generalize nD p q=g at*
 refine ax func109 rfl ntmps109 (aA (k:=bE [⟨3,_,_,_,c⟩] (k:=aE @results109)))
def qF (l d:Int):Int:=(2*l+d)/(2*d)
theorem abZ {d:Int} (b:0<d):(2*nN x d+nD x d)/(2*nD x d)=qF x d:=by
 have f:=uc (n:=x) b;have c:=J3 (n:=x) (d:=d);have e:=El (n:=x) (d:=d);have:(2*nN x d+nD x d)*(Int.gcd x d:Nat)/((2*nD x d)*(Int.gcd x d:Nat))=(2*nN x d+nD x d)/(2*nD x d):=afz _ _ (by omega);simp_all[qF,ag5,agE]
def Bp (f:FF):Nat->Nat->Int:=fun a b=>f b a
def Kj (f:FF) (i j:Nat):Nat->Nat->Int:=fun a b=>if b<i\/(b=i/\a<j)then f b a else 0
theorem S4 (f:FF) (i j a b:Nat):upd (Kj f i j) j i (f i j) a b=Kj f i (j+1) a b:=by
 unfold upd Kj;by_cases c:a=j
 ·subst c;grind
 have:a<j+1↔a<j:=by omega
 simp_all
theorem WI (f:FF) (i a b:Nat) (e:a<n):Kj f i n a b=Kj f (i+1) 0 a b:=by
 grind [Kj]
theorem WH (f:FF) (a b:Nat) (c:b<n):Kj f n 0 a b=Bp f a b:=by
 grind [Kj,Bp]
theorem S5 (f:FF):Kj f 0 0=fun _ _=>0:=by
 grind [Kj]
theorem wR (n c:Nat) (f:FF) (h:1<=n) (x:n<=16) (o:1<=c) (w:c<=16) (C: ∀i j:Nat,i<n->j<c->Bg (f i j)):
  CallC prog 114 [dr (mat n c f)] ⟨[],.tup [(false,[.p (.sl (ls (fR fZ) (mat c n (Bp f))))]),(false,[.p (.raw (.bool true))])]⟩:=by
 have m:=tp (mat n c f);rw[jB (oP f h x o w),aU,jq f h]at m;have u:=aU n c f;have v:=rU c n w x;rw[oQ,oU]at v;refine ax func114 rfl ntmps114 (aA (k:=bj [⟨1,_,_,_,m⟩] (k:=ai (bi (k:=ao rfl (ak (bj [⟨2,_,_,_,v⟩] (k:=ai (dR u (k:=?_))))))))));refine ay (G:=fY n) (fun g=>⟨(dr (mat n c f)::j4 (jk::jk::.one (.sl 20 0 0 c)::j4 (j4 (j4 (jk::jk::rN n::rN g.i::j16 (j4 (j4 (jk::jk::jk::[])))))))),Hm [(20,ij 20 c n (Kj f g.i 0))]⟩) (fun g=>n-g.i) ⟨0,by omega⟩ ?_ ?_
 ·refine aj ⟨?_,trivial⟩ ?_
  ·rw[S5];exact gk 0 20 c n _
  simp[wk]
 rintro⟨i,D⟩;simp only;by_cases t:i<n
 ·have y:=bD c f t;refine ar (k:=aV rfl (ai (am (bi (k:=aH (aC y @aD) (k:=?_))))));refine ay (G:=fY c) (fun g=>⟨(dr (mat n c f)::j4 (jk::jk::.one (.sl 20 0 0 c)::rN i::j4 (j4 (j4 (jk::rN n::rN i::j4 (jk::jk::rN c::rN g.i::j16 (jk::jk::jk::[]))))))),Hm [(20,ij 20 c n (Kj f i g.i))]⟩) (fun g=>c-g.i) ⟨0,by omega⟩ ?_ ?_
  ·refine aj ⟨rfl,trivial⟩ ?_;simp[wk]
  rintro⟨j,E⟩;simp only;by_cases b:j<c
  ·have s:=aB (f i) b;have m:=Er (f i j) (C i j t b);have z:=cf (n:=c) (i:=j) 20 n b;have A:=ez n (Kj f i j) b;have B:=aB (Kj f i j j) t;refine ar (k:=aV rfl (ai (am (bi (k:=eQ [⟨12,_,_,_,m⟩] (aC z (aC y (aC s (aC A (aC B @js))))) (k:=bu (k:=?_)))))));refine⟨⟨j+1,by omega⟩,by grind,aj ⟨?_,trivial⟩ ?_⟩
   ·show _::_=_::_;simp_all[bO,S4]
   simp[wk]
  have r:j=c:=by omega
  subst r;refine ar (k:=aW rfl (bu (k:=?_)));refine⟨⟨i+1,by omega⟩,by grind,aj ⟨?_,trivial⟩ ?_⟩
  ·grind [bO,WI]
  simp[wk]
 have q:i=n:=by omega
 subst q;refine ar (k:=aW rfl ?_);show bA _ _ _ _;have e:ij 20 c i (Kj f i 0)=ij 20 c i (Bp f):=by
  grind [bO,WH]
 rw[e];refine bA.weak ((bF 20 (jo rfl)).trans (aj (tm:=(j4 (jk::jk::jk::dr (mat c i (Bp f))::j16 (j16 (j4 (j4 (jk::jk::jk::[]))))))) (l:=[]) trivial (by simp[wk];exact(RG (H:=Hm [(20,ij 20 c i (Bp f))]) (d:=20) (n:=c) (c:=i) (f:=Bp f) rfl).symm))) ?_;refine bi (k:=aE @results114)
def idF:Nat->Nat->Int:=fun a b=>if a=b then 1 else 0
def S0 (i:Nat):Nat->Nat->Int:=fun a b=>if a<i/\a=b then 1 else 0
theorem S2 (i a b:Nat):upd (S0 i) i i 1 a b=S0 (i+1) a b:=by
 unfold upd S0;by_cases c:a=i
 ·subst c;grind
 have:a<i+1↔a<i:=by omega
 simp_all
theorem WG (a b:Nat) (c:a<n):S0 n a b=idF a b:=by grind [S0,idF]
theorem S3:S0 0=fun _ _=>0:=by rfl
theorem yz (n:Nat) (u:1<=n) (h:n<=16):
  CallC prog 56 [.raw (.int .i64 (n:Int))] ⟨ij 0 n n idF,.tup [(false,[.sl 0 0 0 n]),(false,[.p (.raw (.bool true))])]⟩:=by
 have f:=rU n n h h;rw[oQ,oU]at f;have s:=fh 1 (by omega) (by omega);refine ax func56 rfl ntmps56 (aA (k:=ai (ar (k:=ao rfl (ak (bj [⟨2,_,_,_,f⟩] (k:=ai (bi (k:=?_)))))))));refine ay (G:=fY n) (fun g=>⟨(j4 (.one (.sl 14 0 0 n)::j4 (j4 (jk::jk::jk::rN n::rN g.i::j4 (j4 (jk::jk::jk::[])))))),Hm [(14,ij 14 n n (S0 g.i))]⟩) (fun g=>n-g.i) ⟨0,by omega⟩ ?_ ?_
 ·refine aj ⟨?_,trivial⟩ ?_
  ·rw[S3];exact gk 0 14 n n _
  simp[wk]
 rintro⟨i,w⟩;simp only;by_cases c:i<n
 ·have o:=cf (n:=n) (i:=i) 14 n c;have q:=ez n (S0 i) c;have r:=aB (S0 i i) c;have v:=js (n:=n) (i:=i) (j:=i) n (S0 i) 1;refine ar (k:=aV rfl (ai (am (bi (k:=eQ [⟨5,_,_,_,s⟩] (aC o (aC q r)) (k:=bu (k:=?_)))))));refine⟨⟨i+1,by omega⟩,by grind,aj ⟨?_,trivial⟩ ?_⟩
  ·show _::_=_::_;simp_all[bO,S2]
  simp[wk]
 have b:i=n:=by omega
 subst b;refine ar (k:=aW rfl ?_);show bA _ _ _ _;have e:ij 14 i i (S0 i)=ij 14 i i idF:=by
  grind [bO,WG]
 rw[e];refine bi (k:=?_);refine aQ ⟨.inr rfl,_,bJ.refl _,?_⟩;refine⟨.tup [(false,[.sl 14 0 0 i]),(false,[.p (.raw (.bool true))])],14,?_,?_,?_,rfl⟩
 ·simp(disch:=omega) only[kd,results56]
 ·intro t l x m;simp at l;rcases l with rfl|rfl<;>(simp at m;subst m)<;>first|rfl|trivial
 grind [gk]
def jK (k:Nat) (f g:FF):Nat->Nat->Int:=fun i j=>dt (aN k (f i)) (aN k (Bp g j)) k
theorem abc (n k m:Nat) (f g:FF) (v:1<=n) (L:n<=16) (r:1<=k) (K:k<=16) (y:1<=m) (u:m<=16) (S: ∀i j:Nat,i<n->j<k->Sz (f i j) 16777216) (F: ∀i j:Nat,i<k->j<m->Sz (g i j) 16777216):
  CallC prog 115 [dr (mat n k f),dr (mat k m g)] ⟨[],.tup [(false,[.p (.sl (ls (fR fZ) (mat n m (jK k f g))))]),(false,[.p (.raw (.bool true))])]⟩:=by
 have D:=tp (mat n k f);rw[jB (oP f v L r K),aU,jq f v]at D;have Q:=wR k m g r K y u (fun i j I J=>(F i j I J).mono (by omega));have s:=aU n k f;have t:=aU k m g;have b:=aU m k (Bp g);have E:=rU n m L u;rw[oQ,oU]at E;refine ax func115 rfl ntmps115 (aA (k:=bj [⟨1,_,_,_,D⟩] (k:=bj [⟨1,_,_,_,Q⟩] (k:=ai (aH t (k:=ao rfl (ak (dU [⟨4,_,_,_,E⟩] (aC s b) (k:=ai (dR s (k:=?_)))))))))));refine ay (G:=fY n) (fun q=>⟨(dr (mat n k f)::j4 (j4 (dr (mat m k (Bp g))::jk::.one (.sl 41 0 0 n)::j16 (j4 (j4 (j4 (jk::jk::jk::rN n::rN q.i::j16 (j4 (j4 (jk::[])))))))))),Hm [(41,ij 41 n m (part (jK k f g) q.i 0))]⟩) (fun q=>n-q.i) ⟨0,by omega⟩ ?_ ?_
 ·refine aj ⟨?_,trivial⟩ ?_
  ·rw[qW];exact gk 0 41 n m _
  simp[wk]
 rintro⟨i,I⟩;simp only;by_cases h:i<n
 ·have R:=bD k f h;refine ar (k:=aV rfl (ai (am (bi (k:=dR b (k:=?_))))));refine ay (G:=fY m) (fun q=>⟨(dr (mat n k f)::j4 (j4 (dr (mat m k (Bp g))::jk::.one (.sl 41 0 0 n)::rN i::j16 (j4 (j4 (j4 (jk::jk::rN n::rN i::jk::jk::jk::rN m::rN q.i::j16 (j4 ([]))))))))),Hm [(41,ij 41 n m (part (jK k f g) i q.i))]⟩) (fun q=>m-q.i) ⟨0,by omega⟩ ?_ ?_
  ·refine aj ⟨rfl,trivial⟩ ?_;simp[wk]
  rintro⟨j,J⟩;simp only;by_cases o:j<m
  ·have A:=bD k (Bp g) o;have C:=BW (aN k (f i)) (aN k (Bp g j)) (by rw[aD];omega) (by grind [aD]) (fun z B=>by
    obtain⟨p,M,rfl⟩:=acn.1 B;grind) (fun z B=>by
    obtain⟨p,M,rfl⟩:=acn.1 B;exact(F p j (acV.1 M) o).mono (by omega))
   rw[aD,show dt (aN k (f i)) (aN k (Bp g j)) k=jK k f g i j from rfl]at C;have N:=cf (n:=n) (i:=i) 41 m h;have O:=ez m (part (jK k f g) i j) h;have P:=aB (part (jK k f g) i j i) o;refine ar (k:=aV rfl (ai (am (bi (k:=eQ [⟨13,_,_,_,C⟩] (aC N (aC R (aC A (aC O (aC P @js))))) (k:=bu (k:=?_)))))));refine⟨⟨j+1,by omega⟩,by grind,aj ⟨?_,trivial⟩ ?_⟩
   ·show _::_=_::_;grind [bO,ik]
   simp[wk]
  have x:j=m:=by omega
  subst x;refine ar (k:=aW rfl (bu (k:=?_)));refine⟨⟨i+1,by omega⟩,by grind,aj ⟨?_,trivial⟩ ?_⟩
  ·grind [bO,jx]
  simp[wk]
 have w:i=n:=by omega
 subst w;refine ar (k:=aW rfl ?_);show bA _ _ _ _;have e:ij 41 i m (part (jK k f g) i 0)=ij 41 i m (jK k f g):=by
  grind [bO,jw]
 rw[e];refine bA.weak ((bF 41 (jo rfl)).trans (aj (tm:=(j4 (j4 (jk::jk::jk::dr (mat i m (jK k f g))::j16 (j16 (j16 (j4 (j4 (jk::jk::[]))))))))) (l:=[]) trivial (by simp[wk];exact(RG (H:=Hm [(41,ij 41 i m (jK k f g))]) (d:=41) (n:=i) (c:=m) (f:=jK k f g) rfl).symm))) ?_;refine bi (k:=aE @results115)
theorem vE (n k m:Nat) (f g:FF) (h:1<=n) (r:n<=16) (b:1<=k) (q:k<=16) (c:1<=m) (e:m<=16) (o: ∀i j:Nat,i<n->j<k->Sz (f i j) 16777216) (p: ∀i j:Nat,i<k->j<m->Sz (g i j) 16777216):
  CallC prog 60 [dr (mat n k f),dr (mat k m g)] ⟨[],dr (mat n m (jK k f g))⟩:=by
 have l:=abc n k m f g h r b q c e o p;refine ax func60 rfl ntmps60 (aA (k:=bj [⟨2,_,_,_,l⟩] (k:=bi (k:=aE @results60))))
theorem Wi {k:Nat} {f g:FF} {b c i:Nat} (m: ∀p,p<k->Sz (f i p) b) (l: ∀p,p<k->Sz (g p n) c):Sz (jK k f g i n) (b+c+k):=by
 refine jg (dD fun z e=>?_) (dD fun z e=>?_) k
 ·obtain⟨p,h,rfl⟩:=acn.1 e;grind
 obtain⟨p,h,rfl⟩:=acn.1 e;exact l p (acV.1 h)
def oy (n:Nat) (h t:FF):Nat->Nat->Int:=jK n (jK n (Bp t) h) t
theorem Fm (n:Nat) (h t:FF) (e:1<=n) (l:n<=16) (q: ∀i j:Nat,i<n->j<n->Sz (h i j) 500) (m: ∀i j:Nat,i<n->j<n->Sz (t i j) 500):
  CallC prog 59 [dr (mat n n h),dr (mat n n t)] ⟨[],dr (mat n n (oy n h t))⟩:=by
 have r:=wR n n t e l e l (fun i j f g=>(m i j f g).mono (by omega));have s:=vE n n n (Bp t) h e l e l e l (fun i j f g=>(m j i g f).mono (by omega)) (fun i j f g=>(q i j f g).mono (by omega));have u:=vE n n n (jK n (Bp t) h) t e l e l e l (fun i j f g=>(Wi (b:=500) (c:=500) (fun p o=>m p i o f) (fun p o=>q p j o g)).mono (by omega)) (fun i j f g=>(m i j f g).mono (by omega));refine ax func59 rfl ntmps59 (aA (k:=bj [⟨1,_,_,_,r⟩] (k:=bj [⟨2,_,_,_,s⟩,⟨4,_,_,_,u⟩] (k:=aE (aC @results59 @oy.eq_1)))))
def bW (F:Nat->Int):Nat->Int
 |0=>0
 |k+1=>bW F k+F k
theorem aO {F G:Nat->Int}: ∀k,(∀p,p<k->F p=G p)->bW F k=bW G k
 |0,_=>rfl
 |k+1,h=>by rw[bW,bW,aO k (fun p b=>h p (by omega)),h k (by omega)]
theorem lw (F G:Nat->Int): ∀k,bW (fun p=>F p+G p) k=bW F k+bW G k
 |0=>rfl
 |k+1=>by rw[bW,bW,bW,lw F G k];omega
theorem dV: ∀k,bW (fun _=>0) k=0
 |0=>rfl
 |k+1=>by rw[bW,dV k];rfl
theorem mH {F:Nat->Int} {a:Nat}: ∀{k},a<k->(∀p,p<k->p≠a->F p=0)->bW F k=F a
 |k+1,h,b=>by
  by_cases e:a=k
  ·subst e;rw[bW,aO a (G:=fun _=>0) (fun p f=>b p (by omega) (by omega)),dV];omega
  rw[bW,mH (show a<k by omega) (fun p f c=>b p (by omega) c),b k (by omega) (by omega)];omega
theorem tH {k:Nat} (x y:Nat->Int): ∀l,l<=k->dt (aN k x) (aN k y) l=bW (fun p=>x p*y p) l
 |0,_=>rfl
 |l+1,h=>by
  show dt (aN k x) (aN k y) l+(aN k x).getD l 0*(aN k y).getD l 0=_;rw[tH x y l (by omega),acm,acm,aB _ (by omega),aB _ (by omega)];rfl
theorem l6 (k:Nat) (f g:FF) (i j:Nat):jK k f g i j=bW (fun p=>f i p*g p j) k:=tH _ _ k (acs _)
def QI (i j:Nat) (c:Int):Nat->Nat->Int:=upd idF j i c
def P4 (m:Nat):Nat->Nat->Int:=fun a=>idF (rK m a)
theorem W9 (m a:Nat):rK m (rK m a)=a:=by
 grind [rK]
theorem Zk {i:Nat} (f:n≠i) (p b:Nat):QI i n x p b=idF p b+(if p=n then(if b=i then x else 0)else 0):=by
 unfold QI upd idF;by_cases e:p=n
 ·subst e;grind
 simp[e]
theorem E5 {y:Nat->Int} (c:m<n):bW (fun p=>y p*idF p m) n=y m:=by
 grind [mH,idF]
theorem Ej {i:Nat} {c:Int} (e:m≠i) (g:m<n) (x:FF) (a b:Nat) (f:b<n):jK n x (QI i m c) a b=x a b+(if b=i then c*x a m else 0):=by
 rw[l6,aO n (G:=fun p=>x a p*idF p b+x a p*(if p=m then(if b=i then c else 0)else 0)) (fun p _=>by rw[Zk e,Int.mul_add]),lw,E5 f];grind [mH]
theorem Zl {i:Nat} (f:m≠i) (h:m<n) (e:FF) (a b:Nat) (g:a<n):jK n (Bp (QI i m x)) e a b=e a b+(if a=i then x*e m b else 0):=by
 have:=Ej (c:=x) f h (Bp e) b a g;grind [l6,Bp]
theorem LU {i:Nat} (e:m≠i) (l:m<n) (f:FF) (a b:Nat) (g:a<n) (h:b<n):oy n f (QI i m x) a b=gd f i m x a b:=by
 unfold oy;grind [Ej,Zl,gd]
theorem VR (m p b:Nat):idF (rK m p) b=idF p (rK m b):=by
 grind [idF,W9]
theorem Ek (e:m+1<n) (x:FF) (a b:Nat) (c:b<n):jK n x (P4 m) a b=x a (rK m b):=by
 rw[l6,aO n (G:=fun p=>x a p*idF p (rK m b)) (fun p _=>by rw[<- VR];rfl),E5 (s7 e c)]
theorem aaN (e:m+1<n) (x:FF) (a b:Nat) (c:a<n):jK n (Bp (P4 m)) x a b=x (rK m a) b:=by
 have:=Ek e (Bp x) b a c;grind [l6,Bp]
theorem Ra (c:m+1<n) (f:FF) (a b:Nat) (e:a<n) (g:b<n):oy n f (P4 m) a b=mX f m a b:=by
 unfold oy;rw[Ek c _ a b g,aaN c f a _ e];rfl
/-! Which change is made. -/
inductive Ch where
 |add (i j:Nat)
 |swp (m:Nat)
instance (f:FF) (i j:Nat):Decidable (SizF f i j):=by unfold SizF;exact inferInstance
instance (f:FF) (i:Nat):Decidable (LovF f i):=by unfold LovF;exact inferInstance
def scanJ (f:FF) (i:Nat):Nat->Option Nat
 |0=>none
 |j+1=>if SizF f i j then scanJ f i j else some j
def scanI (f:FF):Nat->Nat->Option Ch
 |0,_=>none
 |m+1,i=>match scanJ f i i with
  |some j=>some (.add i j)
  |none=>if 0<i/\ ¬LovF f i then some (.swp (i-1))else scanI f m (i+1)
def scanF (f:FF) (n:Nat):Option Ch:=scanI f n 0
theorem pa {f:FF} {i:Nat}: ∀{k},scanJ f i k=none-> ∀j,j<k->SizF f i j
 |k+1,h,j,b=>by
  unfold scanJ at h;split at h
  ·rename_i c;by_cases e:j=k
   ·grind
   exact pa h j (by omega)
  cases h
theorem A2 {f:FF} {i j:Nat}: ∀{k},scanJ f i k=some j->j<k/\ ¬SizF f i j/\ ∀b,j<b->b<k->SizF f i b
 |k+1,h=>by
  unfold scanJ at h;split at h
  ·rename_i l;obtain⟨c,e,g⟩:=A2 h;grind
  grind
def wP (f:FF) (i:Nat):Prop:=(∀j,j<i->SizF f i j)/\(0<i->LovF f i)
theorem AZ {f:FF}: ∀{m i},scanI f m i=none-> ∀b,i<=b->b<i+m->wP f b
 |0,i,_,b,c,g=>by omega
 |m+1,i,h,b,c,g=>by
  unfold scanI at h;split at h
  ·cases h
  rename_i j;split at h
  ·cases h
  rename_i n;by_cases e:b=i
  ·subst e;exact⟨pa j,fun l=>by
    grind⟩
  exact AZ h b (by omega) (by omega)
def Fst (f:FF):Ch->Prop
 | .add i j=>j<i/\ ¬SizF f i j/\(∀c,j<c->c<i->SizF f i c)/\ ∀b,b<i->wP f b
 | .swp m=> ¬LovF f (m+1)/\(∀j,j<m+1->SizF f (m+1) j)/\ ∀b,b<m+1->wP f b
def LM:Ch->Nat
 | .add i _=>i
 | .swp m=>m+1
theorem A0 {f:FF} {c:Ch}: ∀{m i},(∀b,b<i->wP f b)->scanI f m i=some c->Fst f c/\LM c<i+m
 |m+1,i,p,h=>by
  unfold scanI at h;split at h
  ·rename_i j g;injection h with h
   subst h;obtain⟨l,n,o⟩:=A2 g;exact⟨⟨l,n,o,p⟩,by simp[LM]⟩
  rename_i g;split at h
  ·rename_i q;injection h with h
   subst h;have e:i-1+1=i:=by omega
   refine⟨⟨by grind,by grind [pa],by grind⟩,by grind [LM]⟩
  rename_i q;have:=A0 (m:=m) (i:=i+1) (fun b r=>by
   by_cases e:b=i
   ·subst e;exact⟨pa g,fun s=>by
     grind⟩
   grind) h
  grind
theorem gY {c:Ch} (h:scanF b n=some c):Fst b c/\LM c<n:=by
 have:=A0 (f:=b) (m:=n) (i:=0) (fun e h=>by omega) h;grind
theorem Kt (h:scanF b n=none):Y8 b n:=fun i c=>AZ (m:=n) (i:=0) h i (by omega) (by omega)
def Bq (i:Nat):Nat:=i*(i-1)/2
def Hi:Ch->Nat
 | .add i j=>Bq i+(i-1-j)
 | .swp m=>Bq (m+2)
theorem nT (i:Nat):Bq (i+1)=Bq i+i:=by
 unfold Bq;cases i with
 |zero=>rfl
 |succ i=>
  grind
theorem lO {i:Nat} (h:i<=n):Bq i<=Bq n:=by
 induction n with
 |zero=>grind
 |succ n b=>
  grind [nT]
def rankF (f:FF) (n:Nat):Nat:=match scanF f n with
 |some c=>Hi c
 |none=>Bq n
theorem AE (f:FF) (n:Nat):rankF f n<=Bq n:=by
 unfold rankF;split
 ·rename_i c e;obtain⟨g,b⟩:=gY e;cases c with
  |add i j=>
   have b:i<n:=b;have:=lO (show i+1<=n by omega);grind [nT,Hi]
  |swp m=>
   have b:m+1<n:=b;exact lO (show m+2<=n by omega)
 omega
theorem WL {i:Nat} (z:m<i) (y:i<n) (s: ∀g,g<i->wP b g) (x: ∀l,m<=l->l<i->SizF b i l):Bq i+(i-1-m)<rankF b n:=by
 have p:=lO (show i+1<=n by omega);rw[nT]at p;unfold rankF;split
 ·rename_i c u;obtain⟨r,w⟩:=gY u;cases c with
  |add g l=>
   obtain⟨o,q,t,v⟩:=r;simp only[Hi];rcases adE g i with h|h|h
   ·exact absurd ((s g h).1 l o) q
   ·grind
   have:=lO (show i+1<=g by omega);grind [nT]
  |swp e=>
   obtain⟨o,q,t⟩:=r;simp only[Hi];by_cases h:e+1<i
   ·exact absurd ((s (e+1) h).2 (by omega)) o
   have:=lO (show i+1<=e+2 by omega);grind [nT]
 omega
section
theorem FS {d1 d0 u v:Int} (j:0<d1) (c:d0.natAbs<=n) (h:d1*x=d0*y+u*v):x.natAbs<=n*y.natAbs+u.natAbs*v.natAbs:=by
 have e:d1.natAbs*x.natAbs=(d0*y+u*v).natAbs:=by rw[<- adt,h]
 have b:=afU (d0*y) (u*v);rw[adt,adt]at b;have f:d0.natAbs*y.natAbs<=n*y.natAbs:=acu _ c;have g:x.natAbs<=d1.natAbs*x.natAbs:=aeQ _ (by omega);omega
theorem SH {d1 d0 l:Int} (c:0<d1) (b:0<d0) (e:0<x) (f:0<y) (h:d1*x=d0*y+l*l):d1.natAbs*x.natAbs=d0.natAbs*y.natAbs+l.natAbs*l.natAbs:=by
 grind [Int.natAbs_mul_self']
structure Def (f:FF) (n B:Nat):Prop where
 sym:SymF f n
 pos: ∀t,t<n->0<dk f (t+1)
 le: ∀k,k<=n->(dk f k).natAbs<=B
section
variable {f:FF} {n B:Nat}
theorem Def.ne (h:Def f n B): ∀t,t<n->dk f (t+1)≠0:=fun t b=>by have:=h.pos t b;omega
theorem Def.pos0 (h:Def f n B) {k:Nat} (b:k<=n):0<dk f k:=by
 cases k with
 |zero=>rw[ce];omega
 |succ k=>exact h.pos k (by omega)
theorem Def.sylv (h:Def f n B) {k a b:Nat} (e:k<n) (j:a<n) (c:b<n):dk f (k+1)*bk f k a b=dk f k*bk f (k+1) a b+bk f k a k*bk f k b k:=by
 have s:=Go.Proofs.YtalmoejhjceflaaGreat.sylv f k (fun t g=>h.ne t (by omega)) a b;rw[iO h.sym k (by omega) (fun t g=>h.ne t (by omega)) k b e c]at s;omega
theorem Def.diag (h:Def f n B) {a:Nat} (b:a<n): ∀m k,a-k=m->k<=a->0<bk f k a a
 |0,k,e,c=>by
  have:k=a:=by omega
  subst this;rw[<- ca];exact h.pos k b
 |m+1,k,e,c=>by
  have g:=h.diag b m (k+1) (by omega) (by omega);have s:=h.sylv (k:=k) (by omega) b b;have l:=h.pos k (by omega);have j:=h.pos0 (k:=k) (by omega);have o:=afT j g;have p:0<=bk f k a k*bk f k a k:=by
   rcases aec 0 (bk f k a k)with h|h
   ·exact acP h h
   exact ac3 h h
  rcases aem 0 (bk f k a a)with h|h
  ·exact h
  have:=aes (ad2 l) h;omega
theorem Def.down (h:Def f n B) {a k:Nat} (b:a<n) (e:k<a):(bk f k a k).natAbs*(bk f k a k).natAbs<=B*(bk f k a a).natAbs/\(bk f (k+1) a a).natAbs<=B*(bk f k a a).natAbs:=by
 have s:=SH (h.pos k (by omega)) (h.pos0 (k:=k) (by omega)) (h.diag b _ k rfl (by omega)) (h.diag b _ (k+1) rfl (by omega)) (h.sylv (k:=k) (by omega) b b);have c:=acu (bk f k a a).natAbs (h.le (k+1) (by omega));have g:=h.pos0 (k:=k) (by omega);have:=aeQ (bk f (k+1) a a).natAbs (show 0<(dk f k).natAbs by omega);omega
theorem Def.nm (h:Def f n B) {a:Nat} (b:a<n): ∀k,k<=a->(bk f k a a).natAbs<=B^k*(f a a).natAbs
 |0,_=>by rw[cH];simp
 |k+1,g=>by
  have c:=(h.down b (show k<a by omega)).2;have e:=acq B (h.nm b k (by omega));grind
theorem Def.lam_le (h:Def f n B) {a k:Nat} (b:a<n) (j:k<a) (e:1<=B) (g:(f a a).natAbs<=m):(bk f k a k).natAbs<=B^n*m:=by
 have l:=(h.down b j).1;have o:=acq B (h.nm b k (by omega));have p:(bk f k a k).natAbs<=(bk f k a k).natAbs*(bk f k a k).natAbs:=Nat.le_mul_self _;have q:B*(B^k*(f a a).natAbs)=B^(k+1)*(f a a).natAbs:=by grind
 have c:B^(k+1)<=B^n:=acF e (by omega);have r:B^(k+1)*(f a a).natAbs<=B^n*m:=acU c g;omega
theorem Def.up (h:Def f n B) {a L:Nat} (b:a<n) (c: ∀k,k<a->(bk f k a k).natAbs<=L): ∀m k,a-k=m->k<=a->(bk f k a a).natAbs<=(B+L*L)*(B+1)^m
 |0,k,j,g=>by
  have:k=a:=by omega
  subst this;rw[<- ca];have:=h.le (k+1) (by omega)
  simp;omega
 |m+1,k,j,g=>by
  have l:=h.up b c m (k+1) (by omega) (by omega);have s:=FS (h.pos k (by omega)) (h.le k (by omega)) (h.sylv (k:=k) (by omega) b b);have e:=c k (by omega);have o:=acU e e;have p:=acq B l;have q:L*L<=(B+L*L)*(B+1)^m:=acl (by omega) (adO _ (adg (by omega)));grind [Nat.mul_add]
theorem Def.norm_le (h:Def f n B) {a:Nat} (e:a<n) (c: ∀k,k<a->(bk f k a k).natAbs<=m):(f a a).natAbs<=(B+m*m)*(B+1)^n:=by
 have b:=h.up e c a 0 rfl (by omega);rw[cH]at b;exact acl b (acq _ (acF (by omega) (by omega)))
theorem Def.ent_up (h:Def f n B) {a b L:Nat} (e:a<n) (g:b<a) (c: ∀a k,a<n->k<a->(bk f k a k).natAbs<=L): ∀m k,b-k=m->k<=b->(bk f k a b).natAbs<=(L+L*L)*(B+1)^m
 |0,k,l,j=>by
  grind
 |m+1,k,l,j=>by
  have o:=h.ent_up e g c m (k+1) (by omega) (by omega);have s:=FS (h.pos k (by omega)) (h.le k (by omega)) (h.sylv (k:=k) (a:=a) (b:=b) (by omega) e (by omega));have p:=acU (c a k e (by omega)) (c b k (by omega) (by omega));have q:=acq B o;have r:L*L<=(L+L*L)*(B+1)^m:=acl (by omega) (adO _ (adg (by omega)));grind [Nat.mul_add]
theorem Def.ent_le (h:Def f n B) (l: ∀a k,a<n->k<a->(bk f k a k).natAbs<=m) {a b:Nat} (c:a<n) (j:b<n):(f a b).natAbs<=(B+m+m*m)*(B+1)^n:=by
 have key: ∀a b,a<n->b<a->(f a b).natAbs<=(B+m+m*m)*(B+1)^n:=fun a b c j=>by
  have g:=h.ent_up c j l b 0 rfl (by omega);rw[cH]at g;refine acl g (acU (by omega) (acF (by omega) (by omega)))
 rcases adE a b with e|e|e
 ·rw[h.sym a c b j];grind
 ·subst e;have g:=h.norm_le c (fun k o=>l a k c o);grind
 grind
end
/-! The numbers of the reduction. -/
section
variable {f:FF} {n B:Nat}
def cN (n B:Nat):Nat:=(B+B*B)*(B+1)^n
def l0 (n B:Nat):Nat:=B^n*cN n B
theorem A7 (h:Def f n B) {i:Nat} (b:i<n) (c:m<i):SizF f i m↔2*((bk f m i m).natAbs:Int)<=dk f (m+1):=by
 rw[SizF,sG h.pos (by omega),mr h.pos (by omega)]
theorem JY (h:Def f n B) {i:Nat} (c:i<n) (b:0<i):LovF f i↔3*(dk f i*dk f i)<=4*(dk f (i-1)*dk f (i+1)+bk f (i-1) i (i-1)*bk f (i-1) i (i-1)):=by
 rw[LovF,sG h.pos (by omega),mr h.pos (by omega),mr h.pos (by omega),mr h.pos (by omega)]
theorem Kz (h:Def f n B) {i:Nat} (b:i<n) (c:m<i) (e:SizF f i m):(bk f m i m).natAbs<=B:=by
 have g:=(A7 h b c).1 e;have l:=h.le (m+1) (by omega);omega
theorem wz (h:Def f n B) {i:Nat} (b:i<n) (e: ∀j,j<i->SizF f i j):(f i i).natAbs<=cN n B:=h.norm_le b fun k c=>Kz h b c (e k c)
def Jn (f:FF) (n B:Nat):Prop:=(∀a,a<n->(f a a).natAbs<=cN n B)\/
 ∃i,i<n/\(∀a,a<n->a≠i->(f a a).natAbs<=cN n B)/\(∀c,c<i->wP f c)/\ ∃s,s<=i/\(∀b,s<=b->b<i->SizF f i b)/\ ∀k,k<i->(bk f k i k).natAbs+2<=(l0 n B+2)*(B+2)^(i-s)
def lM (n B:Nat):Nat:=(l0 n B+2)*(B+2)^n
theorem Jn.lam (h:Def f n B) (l:1<=B) (c:Jn f n B): ∀a k,a<n->k<a->(bk f k a k).natAbs<=lM n B:=by
 have j:l0 n B<=lM n B:=acl (by omega) (adO _ (adg (by omega)));have o: ∀e,e<=n->(l0 n B+2)*(B+2)^e<=lM n B:=fun e m=>acq _ (acF (by omega) m)
 rcases c with c|⟨i,p,c,_,s,r,_,q⟩
 ·exact fun a k b g=>acl (h.lam_le b g l (c a b)) j
 intro a k b g;by_cases e:a=i
 ·grind
 exact acl (h.lam_le b g l (c a b e)) j
def eN (n B:Nat):Nat:=(B+lM n B+lM n B*lM n B)*(B+1)^n
theorem Jn.ent (h:Def f n B) (c:1<=B) (j:Jn f n B) {a:Nat} (e:a<n) (g:m<n):(f a m).natAbs<=eN n B:=h.ent_le (j.lam h c) e g
end
end
end Go.Proofs.YtalmoejhjceflaaGreat
