/-
  Part 19 of a proof (walks and plain facts).
-/
import Derived.Test.YtalmoejhjceflaaGreatV17
set_option linter.all false
set_option maxRecDepth 100000
set_option maxHeartbeats 64000000
namespace Go.Proofs.YtalmoejhjceflaaGreat
open Go.RowKit Go.Proofs.Tryz
variable {n m:Nat} {x y:Int} {b:FF}
theorem ady (a b:Int) (c:b≠0) (f:Bh a) (g:Bh b):CallC prog 253 [tZ a,tZ b] ⟨[],tZ (a%b)⟩:=by
 have e:=GX a b c f g;refine aB func253 rfl ntmps253 (aE (k:=bD [⟨2,_,_,_,e⟩] (k:=ax (k:=aI @results253))))
structure GcG (a b:Int) where
 x:Int
 y:Int
 hx:0<=x
 hy:0<=y
 hg:Int.gcd x y=Int.gcd a b
 sx:Bh x
 sy:Bh y
theorem UO (b:0<=x) (c:0<=y):Int.gcd y (x%y)=Int.gcd x y:=by
 obtain⟨m,rfl⟩:=afw b;obtain⟨n,rfl⟩:=afw c;show Nat.gcd n (m%n)=Nat.gcd m n;grind [Nat.gcd_comm,Nat.gcd_rec]
theorem adt (a b:Int) (l:Bh a) (m:Bh b):CallC prog 242 [tZ a,tZ b] ⟨[],tZ (Int.gcd a b:Nat)⟩:=by
 have n:=TB a l.bg;have o:=TB b m.bg;refine aB func242 rfl ntmps242 (aE (k:=dR [⟨1,_,_,_,n⟩,⟨3,_,_,_,o⟩] (k:=?_)));refine aj (ay (G:=GcG a b) (fun g=>⟨(j4 (.one (.ptr 4 0 0 0)::.one (.ptr 5 0 0 0)::.one (.ptr 6 0 0 0)::j4 (j4 (j4 ([]))))),Hm [(4,sX),(5,oh g.x),(6,oh g.y)]⟩) (fun g=>g.y.natAbs) ⟨a.natAbs,b.natAbs,by omega,by omega,by simp;rfl,l.le (by omega),m.le (by omega)⟩ ?_ ?_)
 ·refine ak ⟨rfl,rfl,rfl,trivial⟩ ?_;simp[wk]
 rintro⟨x,y,v,r,t,s,f⟩;simp only;have j:=kh y f.bg;by_cases c:y=0
 ·subst c;refine aj (ce [⟨1,_,_,_,j⟩] @we (k:=aq rfl (aT ?_)));show bv _ _ _ _;have e:((Int.gcd a b:Nat):Int)=x:=by grind [Int.gcd_zero_right]
  rw[e];refine ax (k:=aI @results242)
 have u:=yF c;have p:=ady x y c s f;have q:=ag1 x (show 0<y by omega);have h:=aho x c;refine aj (bD [⟨1,_,_,_,j⟩] (k:=aC rfl (al (ao (abM [⟨3,_,_,_,p⟩] (k:=?_))))));refine⟨⟨y,x%y,r,h,by grind [UO],f,f.le (by omega)⟩,by grind,ak ⟨rfl,by simp_all[aK],by simp_all[aK],trivial⟩ ?_⟩;simp[wk]
def cR (n d:Int):List AV:=[.p (.raw (.bool (decide (n<0)))),.p (.sl (ls fU (aD n.natAbs))),.p (.raw (.bool (decide (d<0)))),.p (.sl (ls fU (aD d.natAbs)))]
def nN (n d:Int):Int:=n/(Int.gcd n d:Nat)
def nD (n d:Int):Int:=d/(Int.gcd n d:Nat)
theorem vg {n d:Int} (b:0<d):0<Int.gcd n d:=Int.gcd_pos_of_ne_zero_right n (by omega)
theorem LM {n d:Int}:nN n d*(Int.gcd n d:Nat)=n:=aiA (Int.gcd_dvd_left n d)
theorem FK {n d:Int}:nD n d*(Int.gcd n d:Nat)=d:=aiA (Int.gcd_dvd_right n d)
theorem uc {n d:Int} (c:0<d):0<nD n d:=by
 have h:=FK (n:=n) (d:=d);have e:=vg (n:=n) c;rcases afL 0 (nD n d)with b|b
 ·exact b
 have:=Int.mul_nonpos_of_nonpos_of_nonneg b (show(0:Int)<=(Int.gcd n d:Nat) by omega);omega
theorem OX {d:Int} (b:0<d):nN x d/nD x d=x/d:=by
 grind [Int.mul_ediv_mul_of_pos_left,LM,FK]
theorem DO {d:Int} {k:Nat} (h:Sz x k):Sz (nN x d) k:=h.ediv _
theorem DN {d:Int} {k:Nat} (h:Sz d k):Sz (nD x d) k:=h.ediv _
theorem aaQ (n d:Int) (b:0<d) (j:Bh n) (c:Bh d):CallC prog 206 [tZ n,tZ d] ⟨[],.tup [(true,cR (nN n d) (nD n d)),(false,[.p (.raw (.bool true))])]⟩:=by
 have e:=kh d c.bg;rw[Ws b]at e;have l:=adt n d j c;have o:=vg (n:=n) b;have sg:Bh (Int.gcd n d:Nat):=c.le (by
  have:=Nat.le_of_dvd (by omega) (Int.gcd_dvd_natAbs_right n d);omega)
 have f:=s9 n (Int.gcd n d:Nat) (by omega) j sg;have h:=s9 d (Int.gcd n d:Nat) (by omega) c sg;rw[show n/(Int.gcd n d:Nat)=nN n d from rfl]at f;rw[show d/(Int.gcd n d:Nat)=nD n d from rfl]at h;generalize((Int.gcd n d:Nat):Int)=g at*
 generalize nN n d=q at*
 generalize nD n d=m at*
 refine aB func206 rfl ntmps206 (aE (k:=aj (bD [⟨1,_,_,_,e⟩] (k:=aq rfl (al (aj (bD [⟨1,_,_,_,e⟩] (k:=aq rfl (al (bD [⟨2,_,_,_,l⟩] (k:=dR [⟨2,_,_,_,f⟩,⟨5,_,_,_,h⟩] (k:=aI (aG @results206 @cR.eq_1)))))))))))))
theorem ma (n d:Int) (b:0<d) (f:Bh n) (e:Bh d):CallC prog 162 [tR n d] ⟨[],tR (nN n d) (nD n d)⟩:=by
 have c:=aaQ n d b f e;generalize nN n d=h at*
 generalize nD n d=g at*
 refine aB func162 rfl ntmps162 (aE (k:=ce [⟨4,_,_,_,c⟩] @cR.eq_1 (k:=aj (aZ (k:=aq rfl (al (ax (k:=aI @results162))))))))
theorem abw:CallC prog 161 [] ⟨[],tR 1 2⟩:=by
 have b:=er 1 (by omega) (by omega);have c:=er 2 (by omega) (by omega);refine aB func161 rfl ntmps161 (aE (k:=bD [⟨0,_,_,_,b⟩,⟨1,_,_,_,c⟩] (k:=aI @results161)))
theorem Yh (n d:Int) (b:0<d) (f:Bh n) (e:Bh d):CallC prog 159 [tR n d] ⟨[],tZ (n/d)⟩:=by
 have g:=ma n d b f e;have c:=s9 (nN n d) (nD n d) (by have:=uc (n:=n) b;omega) (DO f) (DN e);rw[OX b]at c;generalize nN n d=j at*
 generalize nD n d=h at*
 refine aB func159 rfl ntmps159 (aE (k:=bD [⟨1,_,_,_,g⟩] (k:=bD [⟨4,_,_,_,c⟩] (k:=aI @results159))))
abbrev aeq:List OObj:=[⟨143,4,[[.raw (.bool false),.raw (.slice none 0 0),.raw (.bool false),.raw (.slice none 0 0)]]⟩]
abbrev bxR (n d:Int):List OObj:=[⟨143,4,[[.p (.raw (.bool (decide (n<0)))),.p (.sl (ls fU (aD n.natAbs))),.p (.raw (.bool false)),.p (.sl (ls fU (aD d.natAbs)))]]⟩]
theorem abq (a b c d:Int) (e:0<b) (f:0<d) (j:Sz a 100000000) (m:Sz b 100000000) (o:Sz c 100000000) (p:Sz d 100000000):
  CallC prog 160 [tR a b,tR c d] ⟨[],tR (nN (nN a b*nD c d+nN c d*nD a b) (nD a b*nD c d)) (nD (nN a b*nD c d+nN c d*nD a b) (nD a b*nD c d))⟩:=by
 have w:=ma a b e (j.mono (by omega)) (m.mono (by omega));have z:=ma c d f (o.mono (by omega)) (p.mono (by omega));have r:Sz (nN a b) 100000000:=DO j;have h:Sz (nD a b) 100000000:=DN m;have q:Sz (nN c d) 100000000:=DO o;have g:Sz (nD c d) 100000000:=DN p;have F:=uc (n:=a) e;have E:=uc (n:=c) f;generalize nN a b=x at*
 generalize nD a b=y at*
 generalize nN c d=u at*
 generalize nD c d=v at*
 have s:Sz (x*v) 200000000:=(r.mul g).mono (by omega);have t:Sz (u*y) 200000000:=(q.mul h).mono (by omega);have G:Sz (x*v+u*y) 200000001:=s.add t;have H:Sz (y*v) 200000000:=(h.mul g).mono (by omega);have A:=gu x v (r.mono (by omega)) (g.mono (by omega));have B:=gu u y (q.mono (by omega)) (h.mono (by omega));have m3:=ql (x*v) (u*y) (s.mono (by omega)) (t.mono (by omega));have C:=gu y v (h.mono (by omega)) (g.mono (by omega));have D:=aaQ (x*v+u*y) (y*v) (afa F E) (G.mono (by omega)) (H.mono (by omega));generalize nN (x*v+u*y) (y*v)=J at*
 generalize nD (x*v+u*y) (y*v)=I at*
 refine aB func160 rfl ntmps160 (aE (k:=dR [⟨1,_,_,_,w⟩,⟨3,_,_,_,z⟩] (k:=?_)));refine bv.weak (ak (tm:=(j4 (.one (.ptr 4 0 0 0)::.one (.ptr 5 0 0 0)::.one (.ptr 6 0 0 0)::j16 (j4 (j4 (jk::jk::jk::[])))))) (l:=[(4,aeq),(5,bxR x y),(6,bxR u v)]) ⟨rfl,rfl,rfl,trivial⟩ (by simp[wk])) ?_;refine dF [⟨4,_,_,_,A⟩,⟨9,_,_,_,B⟩,⟨10,_,_,_,m3⟩,⟨15,_,_,_,C⟩,⟨16,_,_,_,D⟩] @cR.eq_1 (k:=ax (k:=aI @results160))
theorem Zr (b:0<y):nN (nN x y*nD 1 2+nN 1 2*nD x y) (nD x y*nD 1 2)/nD (nN x y*nD 1 2+nN 1 2*nD x y) (nD x y*nD 1 2)=(2*x+y)/(2*y):=by
 have c:nN 1 2=1:=by decide
 have e:nD 1 2=2:=by decide
 have j:=uc (n:=x) b;rw[c,e,OX (by omega)];have h:=vg (n:=x) b;have f:=LM (n:=x) (d:=y);have g:=FK (n:=x) (d:=y);have:(nN x y*2+1*nD x y)*(Int.gcd x y:Nat)/((nD x y*2)*(Int.gcd x y:Nat))=(nN x y*2+1*nD x y)/(nD x y*2):=ahF _ _ (by omega);rw[<- this]
 congr 1
 ·grind
 grind
theorem Qa (p q:Int) (b:0<q) (f:Sz p 100000000) (g:Sz q 100000000):CallC prog 108 [tR p q] ⟨[],tZ ((2*p+q)/(2*q))⟩:=by
 have m:=abq p q 1 2 b (by omega) f g (ni (by omega)) (kA (by decide) (by omega));have r:Sz (nN p q) 100000000:=DO f;have h:Sz (nD p q) 100000000:=DN g;have s:=uc (n:=p) b;have o:nN 1 2=1:=by decide
 have e:nD 1 2=2:=by decide
 have j:Sz (2:Int) 1:=kA (by decide) (by omega);have u:Sz (nN p q*nD 1 2+nN 1 2*nD p q) 100000002:=by
  rw[o,e];refine Sz.add (k:=100000001) ((r.mul j).mono (by omega)) ?_;rw[ag0];exact h.mono (by omega)
 have t:Sz (nD p q*nD 1 2) 100000001:=by rw[e];exact(h.mul j).mono (by omega)
 have c:=Yh (nN (nN p q*nD 1 2+nN 1 2*nD p q) (nD p q*nD 1 2)) (nD (nN p q*nD 1 2+nN 1 2*nD p q) (nD p q*nD 1 2)) (uc (by grind)) ((DO u).mono (by omega)) ((DN t).mono (by omega));rw[Zr b]at c;generalize nN (nN p q*nD 1 2+nN 1 2*nD p q) (nD p q*nD 1 2)=w at*
 generalize nD (nN p q*nD 1 2+nN 1 2*nD p q) (nD p q*nD 1 2)=v at*
 have l:=abw;refine aB func108 rfl ntmps108 (aE (k:=dR [⟨1,_,_,_,l⟩,⟨2,_,_,_,m⟩,⟨3,_,_,_,c⟩] (k:=aI @results108)))
theorem tl (p q:Int) (b:0<q) (e:Bh p) (f:Bh q):CallC prog 109 [tZ p,tZ q] ⟨[],tR (nN p q) (nD p q)⟩:=by
 have c:=ma p q b e f;generalize nN p q=h at*
 generalize nD p q=g at*
 refine aB func109 rfl ntmps109 (aE (k:=bD [⟨3,_,_,_,c⟩] (k:=aI @results109)))
def qF (l d:Int):Int:=(2*l+d)/(2*d)
theorem aeu {d:Int} (b:0<d):(2*nN x d+nD x d)/(2*nD x d)=qF x d:=by
 have f:=vg (n:=x) b;have c:=LM (n:=x) (d:=d);have e:=FK (n:=x) (d:=d);have:(2*nN x d+nD x d)*(Int.gcd x d:Nat)/((2*nD x d)*(Int.gcd x d:Nat))=(2*nN x d+nD x d)/(2*nD x d):=ahF _ _ (by omega);simp_all[qF,Int.add_mul,ahb]
def trF (f:FF):Nat->Nat->Int:=fun a b=>f b a
def Ma (f:FF) (i j:Nat):Nat->Nat->Int:=fun a b=>if b<i\/(b=i/\a<j)then f b a else 0
theorem V3 (f:FF) (i j a b:Nat):upd (Ma f i j) j i (f i j) a b=Ma f i (j+1) a b:=by
 unfold upd Ma;by_cases c:a=j
 ·subst c;grind
 have:a<j+1↔a<j:=by omega
 simp_all
theorem ZL (f:FF) (i a b:Nat) (e:a<n):Ma f i n a b=Ma f (i+1) 0 a b:=by
 grind [Ma]
theorem ZK (f:FF) (a b:Nat) (c:b<n):Ma f n 0 a b=trF f a b:=by
 grind [Ma,trF]
theorem V4 (f:FF):Ma f 0 0=fun _ _=>0:=by
 grind [Ma]
theorem yf (n c:Nat) (f:FF) (h:1<=n) (x:n<=16) (o:1<=c) (w:c<=16) (C: ∀i j:Nat,i<n->j<c->Bg (f i j)):
  CallC prog 114 [dq (mat n c f)] ⟨[],.tup [(false,[.p (.sl (ls (fR fZ) (mat c n (trF f))))]),(false,[.p (.raw (.bool true))])]⟩:=by
 have m:=ph (mat n c f);rw[jx (mo f h x o w),aS,j7 f h]at m;have u:=aS n c f;have v:=qL c n w x;rw[nH,n5]at v;refine aB func114 rfl ntmps114 (aE (k:=bu [⟨1,_,_,_,m⟩] (k:=aj (aZ (k:=aq rfl (al (bu [⟨2,_,_,_,v⟩] (k:=aj (d9 u (k:=?_))))))))));refine ay (G:=fp n) (fun g=>⟨(dq (mat n c f)::j4 (jk::jk::.one (.sl 20 0 0 c)::j4 (j4 (j4 (jk::jk::rN n::rN g.i::j16 (j4 (j4 (jk::jk::jk::[])))))))),Hm [(20,gC 20 c n (Ma f g.i 0))]⟩) (fun g=>n-g.i) ⟨0,by omega⟩ ?_ ?_
 ·refine ak ⟨?_,trivial⟩ ?_
  ·rw[V4];exact fD 0 20 c n _
  simp[wk]
 rintro⟨i,D⟩;simp only;by_cases t:i<n
 ·have y:=bA c f t;refine ax (k:=aP rfl (aj (ao (aZ (k:=aF (aG y @az) (k:=?_))))));refine ay (G:=fp c) (fun g=>⟨(dq (mat n c f)::j4 (jk::jk::.one (.sl 20 0 0 c)::rN i::j4 (j4 (j4 (jk::rN n::rN i::j4 (jk::jk::rN c::rN g.i::j16 (jk::jk::jk::[]))))))),Hm [(20,gC 20 c n (Ma f i g.i))]⟩) (fun g=>c-g.i) ⟨0,by omega⟩ ?_ ?_
  ·refine ak ⟨rfl,trivial⟩ ?_;simp[wk]
  rintro⟨j,E⟩;simp only;by_cases b:j<c
  ·have s:=aw (f i) b;have m:=VJ (f i j) (C i j t b);have z:=bO (n:=c) (i:=j) 20 n b;have A:=dp n (Ma f i j) b;have B:=aw (Ma f i j j) t;refine ax (k:=aP rfl (aj (ao (aZ (k:=fP [⟨12,_,_,_,m⟩] (aG z (aG y (aG s (aG A (aG B @gS))))) (k:=bK (k:=?_)))))));refine⟨⟨j+1,by omega⟩,by grind,ak ⟨?_,trivial⟩ ?_⟩
   ·show _::_=_::_;simp_all[bC,V3]
   simp[wk]
  have r:j=c:=by omega
  subst r;refine ax (k:=aQ rfl (bK (k:=?_)));refine⟨⟨i+1,by omega⟩,by grind,ak ⟨?_,trivial⟩ ?_⟩
  ·grind [bC,ZL]
  simp[wk]
 have q:i=n:=by omega
 subst q;refine ax (k:=aQ rfl ?_);show bv _ _ _ _;have e:gC 20 c i (Ma f i 0)=gC 20 c i (trF f):=by
  grind [bC,ZK]
 rw[e];refine bv.weak ((bR 20 (iq rfl)).trans (ak (tm:=(j4 (jk::jk::jk::dq (mat c i (trF f))::j16 (j16 (j4 (j4 (jk::jk::jk::[]))))))) (l:=[]) trivial (by simp[wk];exact(Ow (H:=Hm [(20,gC 20 c i (trF f))]) (d:=20) (n:=c) (c:=i) (f:=trF f) rfl).symm))) ?_;refine aZ (k:=aI @results114)
def idF:Nat->Nat->Int:=fun a b=>if a=b then 1 else 0
def F3 (i:Nat):Nat->Nat->Int:=fun a b=>if a<i/\a=b then 1 else 0
theorem Jg (i a b:Nat):upd (F3 i) i i 1 a b=F3 (i+1) a b:=by
 unfold upd F3;by_cases c:a=i
 ·subst c;grind
 have:a<i+1↔a<i:=by omega
 simp_all
theorem O8 (a b:Nat) (c:a<n):F3 n a b=idF a b:=by grind [F3,idF]
theorem V0:F3 0=fun _ _=>0:=by rfl
theorem zP (n:Nat) (u:1<=n) (h:n<=16):
  CallC prog 56 [.raw (.int .i64 (n:Int))] ⟨gC 0 n n idF,.tup [(false,[.sl 0 0 0 n]),(false,[.p (.raw (.bool true))])]⟩:=by
 have f:=qL n n h h;rw[nH,n5]at f;have s:=er 1 (by omega) (by omega);refine aB func56 rfl ntmps56 (aE (k:=aj (ax (k:=aq rfl (al (bu [⟨2,_,_,_,f⟩] (k:=aj (aZ (k:=?_)))))))));refine ay (G:=fp n) (fun g=>⟨(j4 (.one (.sl 14 0 0 n)::j4 (j4 (jk::jk::jk::rN n::rN g.i::j4 (j4 (jk::jk::jk::[])))))),Hm [(14,gC 14 n n (F3 g.i))]⟩) (fun g=>n-g.i) ⟨0,by omega⟩ ?_ ?_
 ·refine ak ⟨?_,trivial⟩ ?_
  ·rw[V0];exact fD 0 14 n n _
  simp[wk]
 rintro⟨i,w⟩;simp only;by_cases c:i<n
 ·have o:=bO (n:=n) (i:=i) 14 n c;have q:=dp n (F3 i) c;have r:=aw (F3 i i) c;have v:=gS (n:=n) (i:=i) (j:=i) n (F3 i) 1;refine ax (k:=aP rfl (aj (ao (aZ (k:=fP [⟨5,_,_,_,s⟩] (aG o (aG q r)) (k:=bK (k:=?_)))))));refine⟨⟨i+1,by omega⟩,by grind,ak ⟨?_,trivial⟩ ?_⟩
  ·show _::_=_::_;simp_all[bC,Jg]
  simp[wk]
 have b:i=n:=by omega
 subst b;refine ax (k:=aQ rfl ?_);show bv _ _ _ _;have e:gC 14 i i (F3 i)=gC 14 i i idF:=by
  grind [bC,O8]
 rw[e];refine aZ (k:=?_);refine aM ⟨.inr rfl,_,bN.refl _,?_⟩;refine⟨.tup [(false,[.sl 14 0 0 i]),(false,[.p (.raw (.bool true))])],14,?_,?_,?_,rfl⟩
 ·simp(disch:=omega) only[kd,results56]
 ·intro t l x m;simp at l;rcases l with rfl|rfl<;>(simp at m;subst m)<;>first|rfl|trivial
 grind [fD]
def eJ (k:Nat) (f g:FF):Nat->Nat->Int:=fun i j=>gG (aA k (f i)) (aA k (trF g j)) k
theorem adw (n k m:Nat) (f g:FF) (v:1<=n) (L:n<=16) (r:1<=k) (K:k<=16) (y:1<=m) (u:m<=16) (S: ∀i j:Nat,i<n->j<k->Sz (f i j) 16777216) (F: ∀i j:Nat,i<k->j<m->Sz (g i j) 16777216):
  CallC prog 115 [dq (mat n k f),dq (mat k m g)] ⟨[],.tup [(false,[.p (.sl (ls (fR fZ) (mat n m (eJ k f g))))]),(false,[.p (.raw (.bool true))])]⟩:=by
 have D:=ph (mat n k f);rw[jx (mo f v L r K),aS,j7 f v]at D;have Q:=yf k m g r K y u (fun i j I J=>(F i j I J).mono (by omega));have s:=aS n k f;have t:=aS k m g;have b:=aS m k (trF g);have E:=qL n m L u;rw[nH,n5]at E;refine aB func115 rfl ntmps115 (aE (k:=bu [⟨1,_,_,_,D⟩] (k:=bu [⟨1,_,_,_,Q⟩] (k:=aj (aF t (k:=aq rfl (al (fJ [⟨4,_,_,_,E⟩] (aG s b) (k:=aj (d9 s (k:=?_)))))))))));refine ay (G:=fp n) (fun q=>⟨(dq (mat n k f)::j4 (j4 (dq (mat m k (trF g))::jk::.one (.sl 41 0 0 n)::j16 (j4 (j4 (j4 (jk::jk::jk::rN n::rN q.i::j16 (j4 (j4 (jk::[])))))))))),Hm [(41,gC 41 n m (part (eJ k f g) q.i 0))]⟩) (fun q=>n-q.i) ⟨0,by omega⟩ ?_ ?_
 ·refine ak ⟨?_,trivial⟩ ?_
  ·rw[sI];exact fD 0 41 n m _
  simp[wk]
 rintro⟨i,I⟩;simp only;by_cases h:i<n
 ·have R:=bA k f h;refine ax (k:=aP rfl (aj (ao (aZ (k:=d9 b (k:=?_))))));refine ay (G:=fp m) (fun q=>⟨(dq (mat n k f)::j4 (j4 (dq (mat m k (trF g))::jk::.one (.sl 41 0 0 n)::rN i::j16 (j4 (j4 (j4 (jk::jk::rN n::rN i::jk::jk::jk::rN m::rN q.i::j16 (j4 ([]))))))))),Hm [(41,gC 41 n m (part (eJ k f g) i q.i))]⟩) (fun q=>m-q.i) ⟨0,by omega⟩ ?_ ?_
  ·refine ak ⟨rfl,trivial⟩ ?_;simp[wk]
  rintro⟨j,J⟩;simp only;by_cases o:j<m
  ·have A:=bA k (trF g) o;have C:=C8 (aA k (f i)) (aA k (trF g j)) (by rw[az];omega) (by grind [az]) (fun z B=>by
    obtain⟨p,M,rfl⟩:=aeL.1 B;grind) (fun z B=>by
    obtain⟨p,M,rfl⟩:=aeL.1 B;exact(F p j (afE.1 M) o).mono (by omega))
   rw[az,show gG (aA k (f i)) (aA k (trF g j)) k=eJ k f g i j from rfl]at C;have N:=bO (n:=n) (i:=i) 41 m h;have O:=dp m (part (eJ k f g) i j) h;have P:=aw (part (eJ k f g) i j i) o;refine ax (k:=aP rfl (aj (ao (aZ (k:=fP [⟨13,_,_,_,C⟩] (aG N (aG R (aG A (aG O (aG P @gS))))) (k:=bK (k:=?_)))))));refine⟨⟨j+1,by omega⟩,by grind,ak ⟨?_,trivial⟩ ?_⟩
   ·show _::_=_::_;grind [bC,ij]
   simp[wk]
  have x:j=m:=by omega
  subst x;refine ax (k:=aQ rfl (bK (k:=?_)));refine⟨⟨i+1,by omega⟩,by grind,ak ⟨?_,trivial⟩ ?_⟩
  ·grind [bC,jr]
  simp[wk]
 have w:i=n:=by omega
 subst w;refine ax (k:=aQ rfl ?_);show bv _ _ _ _;have e:gC 41 i m (part (eJ k f g) i 0)=gC 41 i m (eJ k f g):=by
  grind [bC,jq]
 rw[e];refine bv.weak ((bR 41 (iq rfl)).trans (ak (tm:=(j4 (j4 (jk::jk::jk::dq (mat i m (eJ k f g))::j16 (j16 (j16 (j4 (j4 (jk::jk::[]))))))))) (l:=[]) trivial (by simp[wk];exact(Ow (H:=Hm [(41,gC 41 i m (eJ k f g))]) (d:=41) (n:=i) (c:=m) (f:=eJ k f g) rfl).symm))) ?_;refine aZ (k:=aI @results115)
theorem wO (n k m:Nat) (f g:FF) (h:1<=n) (r:n<=16) (b:1<=k) (q:k<=16) (c:1<=m) (e:m<=16) (o: ∀i j:Nat,i<n->j<k->Sz (f i j) 16777216) (p: ∀i j:Nat,i<k->j<m->Sz (g i j) 16777216):
  CallC prog 60 [dq (mat n k f),dq (mat k m g)] ⟨[],dq (mat n m (eJ k f g))⟩:=by
 have l:=adw n k m f g h r b q c e o p;refine aB func60 rfl ntmps60 (aE (k:=bu [⟨2,_,_,_,l⟩] (k:=aZ (k:=aI @results60))))
theorem Zp {k:Nat} {f g:FF} {b c i:Nat} (m: ∀p,p<k->Sz (f i p) b) (l: ∀p,p<k->Sz (g p n) c):Sz (eJ k f g i n) (b+c+k):=by
 refine jX (eM fun z e=>?_) (eM fun z e=>?_) k
 ·obtain⟨p,h,rfl⟩:=aeL.1 e;grind
 obtain⟨p,h,rfl⟩:=aeL.1 e;exact l p (afE.1 h)
def bY (n:Nat) (h t:FF):Nat->Nat->Int:=eJ n (eJ n (trF t) h) t
theorem yb (n:Nat) (h t:FF) (e:1<=n) (l:n<=16) (q: ∀i j:Nat,i<n->j<n->Sz (h i j) 500) (m: ∀i j:Nat,i<n->j<n->Sz (t i j) 500):
  CallC prog 59 [dq (mat n n h),dq (mat n n t)] ⟨[],dq (mat n n (bY n h t))⟩:=by
 have r:=yf n n t e l e l (fun i j f g=>(m i j f g).mono (by omega));have s:=wO n n n (trF t) h e l e l e l (fun i j f g=>(m j i g f).mono (by omega)) (fun i j f g=>(q i j f g).mono (by omega));have u:=wO n n n (eJ n (trF t) h) t e l e l e l (fun i j f g=>(Zp (b:=500) (c:=500) (fun p o=>m p i o f) (fun p o=>q p j o g)).mono (by omega)) (fun i j f g=>(m i j f g).mono (by omega));refine aB func59 rfl ntmps59 (aE (k:=bu [⟨1,_,_,_,r⟩] (k:=bu [⟨2,_,_,_,s⟩,⟨4,_,_,_,u⟩] (k:=aI (aG @results59 @bY.eq_1)))))
def smF (F:Nat->Int):Nat->Int
 |0=>0
 |k+1=>smF F k+F k
theorem au {F G:Nat->Int}: ∀k,(∀p,p<k->F p=G p)->smF F k=smF G k
 |0,_=>rfl
 |k+1,h=>by rw[smF,smF,au k (fun p b=>h p (by omega)),h k (by omega)]
theorem iw (F G:Nat->Int): ∀k,smF (fun p=>F p+G p) k=smF F k+smF G k
 |0=>rfl
 |k+1=>by rw[smF,smF,smF,iw F G k];omega
theorem b7: ∀k,smF (fun _=>0) k=0
 |0=>rfl
 |k+1=>by rw[smF,b7 k];rfl
theorem gD {F:Nat->Int} {a:Nat}: ∀{k},a<k->(∀p,p<k->p≠a->F p=0)->smF F k=F a
 |k+1,h,b=>by
  by_cases e:a=k
  ·subst e;rw[smF,au a (G:=fun _=>0) (fun p f=>b p (by omega) (by omega)),b7];omega
  rw[smF,gD (show a<k by omega) (fun p f c=>b p (by omega) c),b k (by omega) (by omega)];omega
theorem Hw {k:Nat} (x y:Nat->Int): ∀l,l<=k->gG (aA k x) (aA k y) l=smF (fun p=>x p*y p) l
 |0,_=>rfl
 |l+1,h=>by
  show gG (aA k x) (aA k y) l+(aA k x).getD l 0*(aA k y).getD l 0=_;rw[Hw x y l (by omega),aeM,aeM,aw _ (by omega),aw _ (by omega)];rfl
theorem bP (k:Nat) (f g:FF) (i j:Nat):eJ k f g i j=smF (fun p=>f i p*g p j) k:=Hw _ _ k (aeJ _)
def TC (i j:Nat) (c:Int):Nat->Nat->Int:=upd idF j i c
def SY (m:Nat):Nat->Nat->Int:=fun a=>idF (tf m a)
theorem Z6 (m a:Nat):tf m (tf m a)=a:=by
 grind [tf]
theorem abN {i:Nat} (f:n≠i) (p b:Nat):TC i n x p b=idF p b+(if p=n then(if b=i then x else 0)else 0):=by
 unfold TC upd idF;by_cases e:p=n
 ·subst e;grind
 simp[e]
theorem rK {y:Nat->Int} (c:m<n):smF (fun p=>y p*idF p m) n=y m:=by
 grind [gD,idF]
theorem FI {i:Nat} {c:Int} (e:m≠i) (g:m<n) (x:FF) (a b:Nat) (f:b<n):eJ n x (TC i m c) a b=x a b+(if b=i then c*x a m else 0):=by
 rw[bP,au n (G:=fun p=>x a p*idF p b+x a p*(if p=m then(if b=i then c else 0)else 0)) (fun p _=>by rw[abN e,ais]),iw,rK f];grind [gD]
theorem abO {i:Nat} (f:m≠i) (h:m<n) (e:FF) (a b:Nat) (g:a<n):eJ n (trF (TC i m x)) e a b=e a b+(if a=i then x*e m b else 0):=by
 have:=FI (c:=x) f h (trF e) b a g;grind [bP,trF]
theorem N4 {i:Nat} (e:m≠i) (l:m<n) (f:FF) (a b:Nat) (g:a<n) (h:b<n):bY n f (TC i m x) a b=gO f i m x a b:=by
 unfold bY;grind [FI,abO,gO]
theorem Y3 (m p b:Nat):idF (tf m p) b=idF p (tf m b):=by
 grind [idF,Z6]
theorem FJ (e:m+1<n) (x:FF) (a b:Nat) (c:b<n):eJ n x (SY m) a b=x a (tf m b):=by
 rw[bP,au n (G:=fun p=>x a p*idF p (tf m b)) (fun p _=>by rw[<- Y3];rfl),rK (un e c)]
theorem ac4 (e:m+1<n) (x:FF) (a b:Nat) (c:a<n):eJ n (trF (SY m)) x a b=x (tf m a) b:=by
 have:=FJ e (trF x) b a c;grind [bP,trF]
theorem T7 (c:m+1<n) (f:FF) (a b:Nat) (e:a<n) (g:b<n):bY n f (SY m) a b=oq f m a b:=by
 unfold bY;rw[FJ c _ a b g,ac4 c f a _ e];rfl
/-! Which change is made. -/
inductive Ch where
 |add (i j:Nat)
 |swp (m:Nat)
instance (f:FF) (i j:Nat):Decidable (SizF f i j):=by unfold SizF;exact inferInstance
instance (f:FF) (i:Nat):Decidable (LovF f i):=by unfold LovF;exact inferInstance
def scanJ (f:FF) (i:Nat):Nat->Option Nat
 |0=>none
 |j+1=>if SizF f i j then scanJ f i j else some j
def scanI (f:FF):Nat->Nat->Option Ch
 |0,_=>none
 |m+1,i=>match scanJ f i i with
  |some j=>some (.add i j)
  |none=>if 0<i/\ ¬LovF f i then some (.swp (i-1))else scanI f m (i+1)
def scanF (f:FF) (n:Nat):Option Ch:=scanI f n 0
theorem qg {f:FF} {i:Nat}: ∀{k},scanJ f i k=none-> ∀j,j<k->SizF f i j
 |k+1,h,j,b=>by
  unfold scanJ at h;split at h
  ·rename_i c;by_cases e:j=k
   ·grind
   exact qg h j (by omega)
  cases h
theorem Cd {f:FF} {i j:Nat}: ∀{k},scanJ f i k=some j->j<k/\ ¬SizF f i j/\ ∀b,j<b->b<k->SizF f i b
 |k+1,h=>by
  unfold scanJ at h;split at h
  ·rename_i l;obtain⟨c,e,g⟩:=Cd h;grind
  grind
def ye (f:FF) (i:Nat):Prop:=(∀j,j<i->SizF f i j)/\(0<i->LovF f i)
theorem Cb {f:FF}: ∀{m i},scanI f m i=none-> ∀b,i<=b->b<i+m->ye f b
 |0,i,_,b,c,g=>by omega
 |m+1,i,h,b,c,g=>by
  unfold scanI at h;split at h
  ·cases h
  rename_i j;split at h
  ·cases h
  rename_i n;by_cases e:b=i
  ·subst e;exact⟨qg j,fun l=>by
    grind⟩
  exact Cb h b (by omega) (by omega)
def Fst (f:FF):Ch->Prop
 | .add i j=>j<i/\ ¬SizF f i j/\(∀c,j<c->c<i->SizF f i c)/\ ∀b,b<i->ye f b
 | .swp m=> ¬LovF f (m+1)/\(∀j,j<m+1->SizF f (m+1) j)/\ ∀b,b<m+1->ye f b
def NV:Ch->Nat
 | .add i _=>i
 | .swp m=>m+1
theorem Cc {f:FF} {c:Ch}: ∀{m i},(∀b,b<i->ye f b)->scanI f m i=some c->Fst f c/\NV c<i+m
 |m+1,i,p,h=>by
  unfold scanI at h;split at h
  ·rename_i j g;injection h with h
   subst h;obtain⟨l,n,o⟩:=Cd g;exact⟨⟨l,n,o,p⟩,by simp[NV]⟩
  rename_i g;split at h
  ·rename_i q;injection h with h
   subst h;have e:i-1+1=i:=by omega
   refine⟨⟨by grind,by grind [qg],by grind⟩,by grind [NV]⟩
  rename_i q;have:=Cc (m:=m) (i:=i+1) (fun b r=>by
   by_cases e:b=i
   ·subst e;exact⟨qg g,fun s=>by
     grind⟩
   grind) h
  grind
theorem iS {c:Ch} (h:scanF b n=some c):Fst b c/\NV c<n:=by
 have:=Cc (f:=b) (m:=n) (i:=0) (fun e h=>by omega) h;grind
theorem Mp (h:scanF b n=none):abA b n:=fun i c=>Cb (m:=n) (i:=0) h i (by omega) (by omega)
def CE (i:Nat):Nat:=i*(i-1)/2
def Jj:Ch->Nat
 | .add i j=>CE i+(i-1-j)
 | .swp m=>CE (m+2)
theorem o7 (i:Nat):CE (i+1)=CE i+i:=by
 unfold CE;cases i with
 |zero=>rfl
 |succ i=>
  grind
theorem mH {i:Nat} (h:i<=n):CE i<=CE n:=by
 induction n with
 |zero=>grind
 |succ n b=>
  grind [o7]
def rankF (f:FF) (n:Nat):Nat:=match scanF f n with
 |some c=>Jj c
 |none=>CE n
theorem BM (f:FF) (n:Nat):rankF f n<=CE n:=by
 unfold rankF;split
 ·rename_i c e;obtain⟨g,b⟩:=iS e;cases c with
  |add i j=>
   have b:i<n:=b;have:=mH (show i+1<=n by omega);grind [o7,Jj]
  |swp m=>
   have b:m+1<n:=b;exact mH (show m+2<=n by omega)
 omega
theorem ZN {i:Nat} (z:m<i) (y:i<n) (s: ∀g,g<i->ye b g) (x: ∀l,m<=l->l<i->SizF b i l):CE i+(i-1-m)<rankF b n:=by
 have p:=mH (show i+1<=n by omega);rw[o7]at p;unfold rankF;split
 ·rename_i c u;obtain⟨r,w⟩:=iS u;cases c with
  |add g l=>
   obtain⟨o,q,t,v⟩:=r;simp only[Jj];rcases af7 g i with h|h|h
   ·exact absurd ((s g h).1 l o) q
   ·grind
   have:=mH (show i+1<=g by omega);grind [o7]
  |swp e=>
   obtain⟨o,q,t⟩:=r;simp only[Jj];by_cases h:e+1<i
   ·exact absurd ((s (e+1) h).2 (by omega)) o
   have:=mH (show i+1<=e+2 by omega);grind [o7]
 omega
section
theorem Hv {d1 d0 u v:Int} (j:0<d1) (c:d0.natAbs<=n) (h:d1*x=d0*y+u*v):x.natAbs<=n*y.natAbs+u.natAbs*v.natAbs:=by
 have e:d1.natAbs*x.natAbs=(d0*y+u*v).natAbs:=by rw[<- afr,h]
 have b:=ahY (d0*y) (u*v);rw[afr,afr]at b;have f:d0.natAbs*y.natAbs<=n*y.natAbs:=ae2 _ c;have g:x.natAbs<=d1.natAbs*x.natAbs:=ag6 _ (by omega);omega
theorem VF {d1 d0 l:Int} (c:0<d1) (b:0<d0) (e:0<x) (f:0<y) (h:d1*x=d0*y+l*l):d1.natAbs*x.natAbs=d0.natAbs*y.natAbs+l.natAbs*l.natAbs:=by
 grind [Int.natAbs_mul_self']
structure Def (f:FF) (n B:Nat):Prop where
 sym:SymF f n
 pos: ∀t,t<n->0<dk f (t+1)
 le: ∀k,k<=n->(dk f k).natAbs<=B
section
variable {f:FF} {n B:Nat}
theorem Def.ne (h:Def f n B): ∀t,t<n->dk f (t+1)≠0:=fun t b=>by have:=h.pos t b;omega
theorem Def.pos0 (h:Def f n B) {k:Nat} (b:k<=n):0<dk f k:=by
 cases k with
 |zero=>rw[b8];omega
 |succ k=>exact h.pos k (by omega)
theorem Def.sylv (h:Def f n B) {k a b:Nat} (e:k<n) (j:a<n) (c:b<n):dk f (k+1)*bk f k a b=dk f k*bk f (k+1) a b+bk f k a k*bk f k b k:=by
 have s:=Go.Proofs.YtalmoejhjceflaaGreat.sylv f k (fun t g=>h.ne t (by omega)) a b;rw[iJ h.sym k (by omega) (fun t g=>h.ne t (by omega)) k b e c]at s;omega
theorem Def.diag (h:Def f n B) {a:Nat} (b:a<n): ∀m k,a-k=m->k<=a->0<bk f k a a
 |0,k,e,c=>by
  have:k=a:=by omega
  subst this;rw[<- cB];exact h.pos k b
 |m+1,k,e,c=>by
  have g:=h.diag b m (k+1) (by omega) (by omega);have s:=h.sylv (k:=k) (by omega) b b;have l:=h.pos k (by omega);have j:=h.pos0 (k:=k) (by omega);have o:=afa j g;have p:0<=bk f k a k*bk f k a k:=by
   rcases afF 0 (bk f k a k)with h|h
   ·exact aeQ h h
   exact ae9 h h
  rcases afL 0 (bk f k a a)with h|h
  ·exact h
  have:=agK (afA l) h;omega
theorem Def.down (h:Def f n B) {a k:Nat} (b:a<n) (e:k<a):(bk f k a k).natAbs*(bk f k a k).natAbs<=B*(bk f k a a).natAbs/\(bk f (k+1) a a).natAbs<=B*(bk f k a a).natAbs:=by
 have s:=VF (h.pos k (by omega)) (h.pos0 (k:=k) (by omega)) (h.diag b _ k rfl (by omega)) (h.diag b _ (k+1) rfl (by omega)) (h.sylv (k:=k) (by omega) b b);have c:=ae2 (bk f k a a).natAbs (h.le (k+1) (by omega));have g:=h.pos0 (k:=k) (by omega);have:=ag6 (bk f (k+1) a a).natAbs (show 0<(dk f k).natAbs by omega);omega
theorem Def.nm (h:Def f n B) {a:Nat} (b:a<n): ∀k,k<=a->(bk f k a a).natAbs<=B^k*(f a a).natAbs
 |0,_=>by rw[de];simp
 |k+1,g=>by
  have c:=(h.down b (show k<a by omega)).2;have e:=ae7 B (h.nm b k (by omega));grind
theorem Def.lam_le (h:Def f n B) {a k:Nat} (b:a<n) (j:k<a) (e:1<=B) (g:(f a a).natAbs<=m):(bk f k a k).natAbs<=B^n*m:=by
 have l:=(h.down b j).1;have o:=ae7 B (h.nm b k (by omega));have p:(bk f k a k).natAbs<=(bk f k a k).natAbs*(bk f k a k).natAbs:=Nat.le_mul_self _;have q:B*(B^k*(f a a).natAbs)=B^(k+1)*(f a a).natAbs:=by grind
 have c:B^(k+1)<=B^n:=ae5 e (by omega);have r:B^(k+1)*(f a a).natAbs<=B^n*m:=afd c g;omega
theorem Def.up (h:Def f n B) {a L:Nat} (b:a<n) (c: ∀k,k<a->(bk f k a k).natAbs<=L): ∀m k,a-k=m->k<=a->(bk f k a a).natAbs<=(B+L*L)*(B+1)^m
 |0,k,j,g=>by
  have:k=a:=by omega
  subst this;rw[<- cB];have:=h.le (k+1) (by omega)
  simp;omega
 |m+1,k,j,g=>by
  have l:=h.up b c m (k+1) (by omega) (by omega);have s:=Hv (h.pos k (by omega)) (h.le k (by omega)) (h.sylv (k:=k) (by omega) b b);have e:=c k (by omega);have o:=afd e e;have p:=ae7 B l;have q:L*L<=(B+L*L)*(B+1)^m:=aeN (by omega) (agh _ (agB (by omega)));grind [Nat.mul_add]
theorem Def.norm_le (h:Def f n B) {a:Nat} (e:a<n) (c: ∀k,k<a->(bk f k a k).natAbs<=m):(f a a).natAbs<=(B+m*m)*(B+1)^n:=by
 have b:=h.up e c a 0 rfl (by omega);rw[de]at b;exact aeN b (ae7 _ (ae5 (by omega) (by omega)))
theorem Def.ent_up (h:Def f n B) {a b L:Nat} (e:a<n) (g:b<a) (c: ∀a k,a<n->k<a->(bk f k a k).natAbs<=L): ∀m k,b-k=m->k<=b->(bk f k a b).natAbs<=(L+L*L)*(B+1)^m
 |0,k,l,j=>by
  grind
 |m+1,k,l,j=>by
  have o:=h.ent_up e g c m (k+1) (by omega) (by omega);have s:=Hv (h.pos k (by omega)) (h.le k (by omega)) (h.sylv (k:=k) (a:=a) (b:=b) (by omega) e (by omega));have p:=afd (c a k e (by omega)) (c b k (by omega) (by omega));have q:=ae7 B o;have r:L*L<=(L+L*L)*(B+1)^m:=aeN (by omega) (agh _ (agB (by omega)));grind [Nat.mul_add]
theorem Def.ent_le (h:Def f n B) (l: ∀a k,a<n->k<a->(bk f k a k).natAbs<=m) {a b:Nat} (c:a<n) (j:b<n):(f a b).natAbs<=(B+m+m*m)*(B+1)^n:=by
 have key: ∀a b,a<n->b<a->(f a b).natAbs<=(B+m+m*m)*(B+1)^n:=fun a b c j=>by
  have g:=h.ent_up c j l b 0 rfl (by omega);rw[de]at g;refine aeN g (afd (by omega) (ae5 (by omega) (by omega)))
 rcases af7 a b with e|e|e
 ·rw[h.sym a c b j];grind
 ·subst e;have g:=h.norm_le c (fun k o=>l a k c o);grind
 grind
end
/-! The numbers of the reduction. -/
section
variable {f:FF} {n B:Nat}
def cN (n B:Nat):Nat:=(B+B*B)*(B+1)^n
def l0 (n B:Nat):Nat:=B^n*cN n B
theorem Ci (h:Def f n B) {i:Nat} (b:i<n) (c:m<i):SizF f i m↔2*((bk f m i m).natAbs:Int)<=dk f (m+1):=by
 rw[SizF,tV h.pos (by omega),nB h.pos (by omega)]
theorem LC (h:Def f n B) {i:Nat} (c:i<n) (b:0<i):LovF f i↔3*(dk f i*dk f i)<=4*(dk f (i-1)*dk f (i+1)+bk f (i-1) i (i-1)*bk f (i-1) i (i-1)):=by
 rw[LovF,tV h.pos (by omega),nB h.pos (by omega),nB h.pos (by omega),nB h.pos (by omega)]
theorem My (h:Def f n B) {i:Nat} (b:i<n) (c:m<i) (e:SizF f i m):(bk f m i m).natAbs<=B:=by
 have g:=(Ci h b c).1 e;have l:=h.le (m+1) (by omega);omega
theorem xN (h:Def f n B) {i:Nat} (b:i<n) (e: ∀j,j<i->SizF f i j):(f i i).natAbs<=cN n B:=h.norm_le b fun k c=>My h b c (e k c)
def Jn (f:FF) (n B:Nat):Prop:=(∀a,a<n->(f a a).natAbs<=cN n B)\/
 ∃i,i<n/\(∀a,a<n->a≠i->(f a a).natAbs<=cN n B)/\(∀c,c<i->ye f c)/\ ∃s,s<=i/\(∀b,s<=b->b<i->SizF f i b)/\ ∀k,k<i->(bk f k i k).natAbs+2<=(l0 n B+2)*(B+2)^(i-s)
def lM (n B:Nat):Nat:=(l0 n B+2)*(B+2)^n
theorem Jn.lam (h:Def f n B) (l:1<=B) (c:Jn f n B): ∀a k,a<n->k<a->(bk f k a k).natAbs<=lM n B:=by
 have j:l0 n B<=lM n B:=aeN (by omega) (agh _ (agB (by omega)));have o: ∀e,e<=n->(l0 n B+2)*(B+2)^e<=lM n B:=fun e m=>ae7 _ (ae5 (by omega) m)
 rcases c with c|⟨i,p,c,_,s,r,_,q⟩
 ·exact fun a k b g=>aeN (h.lam_le b g l (c a b)) j
 intro a k b g;by_cases e:a=i
 ·grind
 exact aeN (h.lam_le b g l (c a b e)) j
def eN (n B:Nat):Nat:=(B+lM n B+lM n B*lM n B)*(B+1)^n
theorem Jn.ent (h:Def f n B) (c:1<=B) (j:Jn f n B) {a:Nat} (e:a<n) (g:m<n):(f a m).natAbs<=eN n B:=h.ent_le (j.lam h c) e g
end
end
section
theorem ZM {d:Int} (f:0<d):2*((x+ -(qF x d)*d).natAbs:Int)<=d:=by
 unfold qF;have b:=ail (2*x+d) (2*d);have c:=aho (2*x+d) (show 2*d≠0 by omega);have e:=ag1 (2*x+d) (show 0<2*d by omega);grind
theorem Mb {l d:Int} (n:0<d):(qF l d).natAbs<=l.natAbs+1:=by
 unfold qF;have b:=ail (2*l+d) (2*d);have g:=aho (2*l+d) (show 2*d≠0 by omega);have j:=ag1 (2*l+d) (show 0<2*d by omega);generalize(2*l+d)/(2*d)=q at*
 have e:2*d*q=2*(d*q):=ahb 2 d q;rw[e]at b;have c:(d*q).natAbs=d.natAbs*q.natAbs:=afr d q;have f:l.natAbs<=d.natAbs*l.natAbs:=ag6 _ (by omega);rcases agT (l.natAbs+1) q.natAbs with h|h
 ·exfalso;have m:=ae7 d.natAbs (show l.natAbs+2<=q.natAbs by omega);grind
 exact h
section
variable {f:FF} {n B:Nat}
theorem TE (g:SymF f n) {i:Nat} (c:Int) (p:m<n):SymF (gO f i m c) n:=fun a l b o=>by
 by_cases q:a=b
 ·grind
 unfold gO;rw[g a l b o];by_cases h:a=i
 ·by_cases e:b=i
  ·omega
  simp only[h,e,if_true,if_false];rw[g m p b o];omega
 by_cases e:b=i
 ·simp only[h,e,if_true,if_false];rw[g a l m p];omega
 omega
theorem Def.add (h:Def f n B) {i:Nat} (c:Int) (b:m<i) (l:i<n):Def (gO f i m c) n B:=by
 obtain⟨e,_⟩:=mL h.sym h.ne c b l;exact⟨TE h.sym c (by omega),fun t o=>by rw[e (t+1) (by omega)];exact h.pos t o,fun k g=>by rw[e k g];exact h.le k g⟩
theorem D6 (h:Def f n B) {i:Nat} (c:Int) (e:m<i) (r:i<n) {b:Nat} (t:b<i) (s:ye f b):ye (gO f i m c) b:=by
 have p:=h.add c e r;obtain⟨l,u,v⟩:=mL h.sym h.ne c e r;have q: ∀k,k<b->bk (gO f i m c) k b k=bk f k b k:=fun k g=>by
  grind [Am]
 refine⟨fun k g=>?_,fun o=>?_⟩
 ·rw[Ci p (by omega) g,q k g,l _ (by omega)];exact(Ci h (by omega) g).1 (s.1 k g)
 rw[LC p (by omega) o,q _ (by omega),l _ (by omega),l _ (by omega),l _ (by omega)];exact(LC h (by omega) o).1 (s.2 o)
def cF (f:FF) (i j:Nat):Int:= -(qF (lam f i j) (dd f (j+1)))
theorem TU (h:Def f n B) {i:Nat} (b:m<n):cF f i m= -(qF (bk f m i m) (dk f (m+1))):=by rw[cF,tV h.pos b,nB h.pos (by omega)]
theorem Gp (h:Def f n B) {i:Nat} (c:m<i) (g:i<n) {b:Nat} (s:m<=b) (q:b<i) (t:m<b->SizF f i b):SizF (gO f i m (cF f i m)) i b:=by
 have p:=h.add (cF f i m) c g;obtain⟨l,o,r⟩:=mL h.sym h.ne (cF f i m) c g;rw[Ci p g q,l _ (by omega)];by_cases e:b=m
 ·subst e;rw[o b i b (by omega)];have:gO (bk f b) i b (cF f i b) i b=bk f b i b+cF f i b*dk f (b+1):=by
   unfold gO;grind [cB]
  rw[this,TU h (by omega)];exact ZM (h.pos b (by omega))
 grind [Ci]
theorem aby (h:Def f n B) (F:1<=B) (Q:Jn f n B) {i:Nat} (P:Fst f (.add i m)) (g:i<n):Jn (gO f i m (cF f i m)) n B:=by
 obtain⟨b,z,X,A⟩:=P;obtain⟨g1,L,g3⟩:=mL h.sym h.ne (cF f i m) b g;have H: ∀a,a≠i->gO f i m (cF f i m) a a=f a a:=fun a o=>Am o o
 -- the new lambdas of row i
 have u: ∀M:Nat,(∀k,k<i->(bk f k i k).natAbs+2<=M)-> ∀k,k<i->(bk (gO f i m (cF f i m)) k i k).natAbs+2<=M*(B+2):=fun M v k l=>by
  have S:=v k l;have R:=v m b;have e0:M*(B+2)=M*B+2*M:=by grind
  rcases af7 k m with e|e|e
  ·rw[L k i k (by omega)];have K:gO (bk f k) i m (cF f i m) i k=bk f k i k+cF f i m*bk f k m k:=by
    grind [gO]
   rw[K];have I:=ahY (bk f k i k) (cF f i m*bk f k m k);rw[afr]at I;have a2:(cF f i m).natAbs<=(bk f m i m).natAbs+1:=by rw[TU h (by omega),agw];exact Mb (h.pos m (by omega))
   have J:(bk f k m k).natAbs<=B:=My h (by omega) e ((A m b).1 k e);have a4:=afd (show(cF f i m).natAbs<=M by omega) J;omega
  ·subst e;have hz:=Gp h b g (aeJ k) l (fun h=>by omega);have:=My (h.add (cF f i k) b g) g l hz;have:B<=M*B:=ag6 _ (by omega);omega
  grind
 have c: ∀M e:Nat,1<=e->e<=i-m->M*(B+2)<=(l0 n B+2)*(B+2)^e->(∀a,a<n->a≠i->(f a a).natAbs<=cN n B)->(∀k,k<i->(bk f k i k).natAbs+2<=M)->Jn (gO f i m (cF f i m)) n B:=fun M e T x w q v=>by
  refine .inr ⟨i,g,fun a o W=>by grind,fun i' t=>D6 h _ b g t (A i' t),m,by omega,fun j' N E=>Gp h b g N E (fun O=>X j' O E),fun k l=>?_⟩;refine aeN (u M v k l) (aeN w (ae7 _ (ae5 (by omega) x)))
 rcases Q with q|⟨p,y,q,C,s,Y,Z,V⟩
 ·refine c (l0 n B+2) 1 (by omega) (by omega) (by simp) (fun a o _=>q a o) (fun k l=>?_);have:(bk f k i k).natAbs<=l0 n B:=h.lam_le g l F (q i g);omega
 by_cases e:p=i
 ·subst e;have U:m<s:=by
   grind
  refine c ((l0 n B+2)*(B+2)^(p-s)) (p-s+1) (by omega) (by omega) (by grind) q V
 have G:(f p p).natAbs<=cN n B:=by
  rcases agT p i with D|D
  ·exact xN h y (A p D).1
  exact absurd ((C i (by omega)).1 m b) z
 have r: ∀a,a<n->(f a a).natAbs<=cN n B:=fun a o=>by
  grind
 refine c (l0 n B+2) 1 (by omega) (by omega) (by simp) (fun a o _=>r a o) (fun k l=>?_);have:(bk f k i k).natAbs<=l0 n B:=h.lam_le g l F (r i g);omega
theorem Ei (h:Def f n B) (c:m+1<n) (o: ¬LovF f (m+1)):4*dk (oq f m) (m+1)<3*dk f (m+1)/\0<dk (oq f m) (m+1):=by
 obtain⟨e,g⟩:=CB h.sym h.pos c;refine⟨?_,g⟩;have j: ¬3*(dk f (m+1)*dk f (m+1))<=4*(dk f m*dk f (m+2)+bk f m (m+1) m*bk f m (m+1) m):=fun l=>o ((LC h c (by omega)).2 l)
 rw[<- e]at j;have p:=h.pos m (by omega);rcases afL (4*dk (oq f m) (m+1)) (3*dk f (m+1))with b|b
 ·exact b
 exfalso;have q:=aeO b (afA p);grind
theorem Def.swap (h:Def f n B) (c:m+1<n) (q: ¬LovF f (m+1)):Def (oq f m) n B:=by
 obtain⟨j,_⟩:=rL h.sym h.pos c;obtain⟨s,u⟩:=Ei h c q;have p:=h.pos m (by omega);refine⟨fun a l b o=>h.sym _ (un c l) _ (un c o),fun t r=>?_,fun k g=>?_⟩
 ·by_cases e:t=m
  ·grind
  rw[j (t+1) (by omega) (by omega)];exact h.pos t r
 by_cases e:k=m+1
 ·subst e;have:=h.le (m+1) g;omega
 rw[j k g e];exact h.le k g
theorem Yj (h:Def f n B) (p:Jn f n B) (o:Fst f (.swp m)) (q:m+1<n):Jn (oq f m) n B:=by
 obtain⟨j,t,r⟩:=o;have c: ∀a,a<n->(f a a).natAbs<=cN n B:=by
  rcases p with c|⟨i,s,c,l,_⟩
  ·exact c
  intro a g;by_cases e:a=i
  ·subst e;rcases af7 a (m+1)with b|b|b
   ·exact xN h g (r a b).1
   ·grind [xN]
   exact absurd ((l (m+1) b).2 (by omega)) j
  grind
 exact .inl fun a g=>c _ (un q g)
def prD (f:FF):Nat->Nat
 |0=>1
 |k+1=>prD f k*(dk f (k+1)).natAbs
theorem xG {g:FF}: ∀k,(∀t,t<k->dk g (t+1)=dk f (t+1))->prD g k=prD f k
 |0,_=>rfl
 |k+1,h=>by rw[prD,prD,xG k (fun t b=>h t (by omega)),h k (by omega)]
theorem O7 (h:Def f n B): ∀k,k<=n->0<prD f k
 |0,_=>by simp[prD]
 |k+1,b=>by
  have:=h.pos k (by omega);exact aiy (O7 h k (by omega)) (by omega)
theorem VZ (h:Def f n B): ∀k,k<=n->prD f k<=B^k
 |0,_=>by simp[prD]
 |k+1,b=>by rw[prD,af3];exact afd (VZ h k (by omega)) (h.le (k+1) b)
theorem Jc (h:Def f n B) {m:Nat} (c:m+1<n) (j: ¬LovF f (m+1)): ∀k,m<k->k<=n->4*prD (oq f m) k<=3*prD f k
 |k+1,r,b=>by
  obtain⟨g,_⟩:=rL h.sym h.pos c;obtain⟨o,q⟩:=Ei h c j;have p:=h.pos m (by omega);rw[prD,prD];by_cases e:k=m
  ·subst e;rw[xG k (fun t s=>g (t+1) (by omega) (by omega)),ahw,ahw 3];exact ae7 _ (by omega)
  have l:=Jc h c j k (by omega) (by omega);rw[g (k+1) b (by omega),<- agj,<- agj];exact ae2 _ l
end
/-! Bounds of the minors of a matrix of small entries. -/
theorem U9 {E:Nat} {r:Nat->Int} (f: ∀c,(r c).natAbs<=E) {M:Nat}: ∀(b:List Nat) (N:Nat) (F:List Nat->Int),b.length<=N->(∀l,l.length<=N->(F l).natAbs<=M)->(eH r F b).natAbs<=b.length*(E*M)
 |[],_,_,_,_=>by simp[eH]
 |c::b,N,F,m,e=>by
  rw[eH];have g:=Int.natAbs_sub_le (r c*F b) (eH r (fun l=>F (c::l)) b);have h:=U9 f b (N-1) (fun l=>F (c::l)) (by grind) (fun l n=>e (c::l) (by grind));rw[afr]at g;have j:=afd (f c) (e b (by grind));grind [Nat.add_mul]
theorem abe {E L:Nat} {f:FF} (e: ∀a b,(f a b).natAbs<=E): ∀k l,l.length<=L->(om f k l).natAbs<=(L*E)^k
 |0,l,_=>by simp[om]
 |k+1,l,c=>by
  rw[om];have:=U9 (e k) l L (om f k) c (fun l c=>abe e k l c);have g:l.length*(E*(L*E)^k)<=L*(E*(L*E)^k):=ae2 _ c;grind
theorem N7: ∀k,(jc k).length=k
 |0=>rfl
 |k+1=>by rw[jc,ae6,N7 k]
abbrev bB:Nat:=722204136308736
theorem E7 {L:Nat} (e:1<=L*n) (g: ∀a c,(b a c).natAbs<=n) {k:Nat} (h:k<=L):(dk b k).natAbs<=(L*n)^L:=
 aeN (abe g k (jc k) (by grind [N7])) (ae5 e h)
theorem adL (e: ∀a c,(b a c).natAbs<=9) {k:Nat} (g:k<=8):(dk b k).natAbs<=bB:=by
 have h:=E7 (L:=8) (by decide) e g;omega
end
end Go.Proofs.YtalmoejhjceflaaGreat
