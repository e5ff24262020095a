/-
  Part 16 of a proof (walks and plain facts).
-/
import Derived.Test.YtiollbhgpiiodaaGreatDoorP14
import Derived.Lib.SmallJoins
set_option linter.all false
set_option maxRecDepth 100000
set_option maxHeartbeats 64000000
open Nat renaming reduceAdd → aa
open Nat renaming reduceEqDiff → ae
open List renaming replicate → ag
open Nat renaming reduceBEq → ah
open List renaming getElem?_eq_none → au
namespace Go.Proofs.YtiollbhgpiiodaaGreatDoor
open Go.RowKit
def Qr (L:List Int) (i k:Nat) (s:(Nat->Nat->Int)×Nat):(Nat->Nat->Int)×Nat:=(upd (upd s.1 i k (Int.tmod (L.getD s.2 0) 3)) k i (Int.tmod (L.getD s.2 0) 3),f6 L s.2)
def J2 (L:List Int) (i:Nat) (s:(Nat->Nat->Int)×Nat):Nat->(Nat->Nat->Int)×Nat
 |0=>s
 |k+1=>Qr L i k (J2 L i s k)
def oQ (L:List Int) (s:(Nat->Nat->Int)×Nat):Nat->(Nat->Nat->Int)×Nat
 |0=>s
 |i+1=>J2 L i (oQ L s i) i
theorem By {L:List Int} {i:Nat} {s:(Nat->Nat->Int)×Nat} (h:s.2<=L.length): ∀k,(J2 L i s k).2<=L.length
 |0=>h
 |k+1=>nC (By h k)
theorem Bx {L:List Int} {s:(Nat->Nat->Int)×Nat} (h:s.2<=L.length): ∀i,(oQ L s i).2<=L.length
 |0=>h
 |i+1=>By (Bx h i) i
theorem ye (f:FF) (i j:Nat) (v:Int):upd f i j v i j=v:=by simp[upd]
theorem EK (b:Nat) (L:List Int) (a n:Nat) (hL:I8 L) (ha:a<=L.length) (hn:n<=8):
  CallT Tryz.prog b 84 46 [dq b,.raw (.int .i64 (n:Int))] (FK L a) ⟨dc 0 n n (oQ L (fY L a 6,ke L a n) n).1,.one (.sl 0 0 0 n)⟩ (FK L (oQ L (fY L a 6,ke L a n) n).2):=by
 have c0:=lg b L a n 6 hL ha hn (by omega) (by omega);rw[show((6:Nat):Int)=6 from rfl]at c0;have hp0:(fY L a 6,ke L a n).2<=L.length:=qf ha n;refine mj Tryz.func46 rfl (by kernel_rfl) ?_;rw[Tryz.ntmps46];refine aX fun _ K=>?_;simp only[kd,dq,aa,ag];apply K
 refine qc 2 c0 [] [] (by kernel_rfl) (by rfl) (by rfl) fun _ K=>?_;simp only[kd,dq,aa];apply K
 refine cL (aX fun _ K=>?_);simp only[kd,aa];apply K;refine mb (G:=kK n) (fun g=>⟨(dq b::j4 (.one (.sl 10 0 0 n)::j4 (jk::jk::rN n::rN g.i::j16 (j4 (j4 (j4 (jk::jk::jk::[]))))))),Hm [(10,dc 10 n n (oQ L (fY L a 6,ke L a n) g.i).1)]⟩) (fun g=>FK L (oQ L (fY L a 6,ke L a n) g.i).2) (fun g=>n-g.i) ⟨0,by omega⟩ ?_ rfl ?_
 ·refine aG ⟨?_,trivial⟩ ?_
  ·exact cE 0 10 n n _
  simp[wk]
 rintro⟨i,hi⟩;simp only;have hpi:=Bx hp0 i;by_cases hm:i<n
 ·refine aX fun _ K=>?_;simp(disch:=omega) only[kd,dq];apply K
  refine wO rfl ?_;refine cL (dE ?_);refine aX fun _ K=>?_;simp only[kd];apply K
  refine aX fun _ K=>?_;simp only[kd];apply K
  refine mb (G:=kK i) (fun g=>⟨(dq b::j4 (.one (.sl 10 0 0 n)::rN i::rN g.i::j4 (.raw (.int .i64 (n:Int))::rN i::j16 (j4 (j4 (j4 (jk::jk::jk::[]))))))),Hm [(10,dc 10 n n (J2 L i (oQ L (fY L a 6,ke L a n) i) g.i).1)]⟩) (fun g=>FK L (J2 L i (oQ L (fY L a 6,ke L a n) i) g.i).2) (fun g=>i-g.i) ⟨0,by omega⟩ ?_ rfl ?_
  ·refine aG ⟨rfl,trivial⟩ ?_;simp[wk]
  rintro⟨k,hk⟩;simp only;have hpk:=By (i:=i) hpi k;by_cases hm2:k<i
  ·have hst:J2 L i (oQ L (fY L a 6,ke L a n) i) (k+1)=Qr L i k (J2 L i (oQ L (fY L a 6,ke L a n) i) k):=rfl;generalize J2 L i (oQ L (fY L a 6,ke L a n) i) k=s at*
   obtain⟨f,p⟩:=s;simp only at hpk⊢;have c1:=Ge b L p hL hpk;have hb:=hL.getD p;have a1:=bZ (n:=n) (i:=i) 10 n hm;have a2:=bZ (n:=n) (i:=k) 10 n (by omega);have a3:=cH n f hm;have a5:=aY (f i) (show k<n by omega);have hst2:Qr L i k (f,p)=(upd (upd f i k (Int.tmod (L.getD p 0) 3)) k i (Int.tmod (L.getD p 0) 3),f6 L p):=rfl;obtain⟨v,hv⟩: ∃v,Int.tmod (L.getD p 0) 3=v:=⟨_,rfl⟩;rw[hv]at hst2;have a6:=cH n (upd f i k v) hm;have a7:=cH n (upd f i k v) (show k<n by omega);have a8:(bT n (upd f i k v i))[k]?=some v:=by rw[aY _ (by omega),ye]
   have a9:=aY (upd f i k v k) hm;refine cL (aX fun _ K=>?_);simp(disch:=omega) only[kd,aa,dq];apply K;refine gT rfl (kh ?_);refine cL (dE ?_);refine AN bj 6 c1 [] [] (by kernel_rfl) (by kernel_rfl) (by rfl) (by rfl) fun _ K=>?_;simp(disch:=omega) only[kd,dq,aa,a1,hv,a3,a5,eP];apply K
   refine AL bj (by kernel_rfl) fun _ K=>?_;simp(disch:=omega) only[kd,aa,a2,a1,a6,a8,a7,a9,eP];apply K
   show eA _ _ _ _ _ _ _;refine eZ fun _ K=>?_;simp(disch:=omega) only[kd,aa,aT];apply K
   refine⟨⟨k+1,by omega⟩,by simp only;omega,aG ⟨?_,trivial⟩ ?_,?_⟩
   ·rw[hst,hst2];rfl
   ·simp[wk]
   simp only;rw[hst,hst2]
  have hki:k=i:=by omega
  subst hki;refine cL (aX fun _ K=>?_);simp(disch:=omega) only[kd,aa,dq];apply K;refine cQ rfl (yC ?_);show eA _ _ _ _ _ _ _;refine eZ fun _ K=>?_;simp(disch:=omega) only[kd,aT];apply K
  refine⟨⟨k+1,by omega⟩,by simp only;omega,aG ⟨rfl,trivial⟩ ?_,rfl⟩;simp[wk]
 have hin:i=n:=by omega
 subst hin;refine aX fun _ K=>?_;simp(disch:=omega) only[kd,dq];apply K
 refine wN rfl ?_;show eA _ _ _ _ _ _ _;refine aX fun _ K=>?_;simp only[kd];apply K
 refine m9 ⟨.inr rfl,rfl,_,cj.refl _,?_⟩;refine⟨.one (.sl 10 0 0 i),10,?_,rfl,?_,rfl⟩
 ·simp(disch:=omega) only[kd,Tryz.results46]
 exact(cE 10 0 _ _ _).symm
def Kz (fork:Bool) (n i:Nat):Nat:=if fork=true/\i+1=n/\3<n then i-2 else i-1
def iV (fork:Bool) (n:Nat):Nat->Nat->Nat->Int
 |0=>fun _ _=>0
 |i+1=>if i=0 then upd (iV fork n i) i i 2 else upd (upd (upd (iV fork n i) i i 2) i (Kz fork n i) (-1)) (Kz fork n i) i (-1)
theorem GL {fork:Bool} {n i:Nat} (h:0<i):Kz fork n i<i:=by unfold Kz;split<;>omega
theorem oO {f:FF} {i j a b:Nat} {v:Int} (h:a≠i\/b≠j):upd f i j v a b=f a b:=by
 unfold upd;by_cases h1:a=i
 ·subst h1;have h2:b≠j:=by rcases h with h|h;exact absurd rfl h;exact h
  simp[h2]
 simp[h1]
theorem yN (fork:Bool) (n:Nat): ∀i a b,i<=a\/i<=b->iV fork n i a b=0
 |0,_,_,_=>rfl
 |i+1,a,b,h=>by
  have ih:=yN fork n i a b (by omega);unfold iV;split
  ·rw[oO (by omega),ih]
  rename_i h0;have:=GL (fork:=fork) (n:=n) (show 0<i by omega);rw[oO (by omega),oO (by omega),oO (by omega),ih]
theorem CS (n:Nat) (fork:Bool) (hn:n<=8):
  CallC Tryz.prog 47 [.raw (.int .i64 (n:Int)),.raw (.bool fork)] ⟨dc 0 n n (iV fork n n),.one (.sl 0 0 0 n)⟩:=by
 refine aJ Tryz.func47 rfl (by kernel_rfl) ?_;rw[Tryz.ntmps47];refine aF fun _ K=>?_;simp only[kd,aa,ag];apply K
 refine aF fun _ K=>?_;simp(disch:=omega) only[kd,aa];apply K
 refine aH (aF fun _ K=>?_);simp only[kd,aa];apply K;refine aZ (G:=kK n) (fun g=>⟨(.raw (.int .i64 (n:Int))::.raw (.bool fork)::jk::jk::jk::.one (.sl 9 0 0 n)::j4 (jk::rN n::rN g.i::j16 (j16 (j4 (j4 (j4 ([]))))))),Hm [(9,kI 9 n n g.i (iV fork n g.i))]⟩) (fun g=>n-g.i) ⟨0,by omega⟩ ?_ ?_
 ·refine aG ⟨?_,trivial⟩ ?_
  ·show[_]=_;simp[gk,bx]
  simp[wk]
 rintro⟨i,hi⟩;simp only;by_cases hm:i<n
 ·have k1:=qr (i:=i) (n:=n) 9 n hm;have k2:=jj (i:=i) (n:=n) 9 n hi;have k3:=bi i n (iV fork n i);have k4:=nk (i:=i) (n:=n) (c:=n) 9 (iV fork n i) hm (fun j hj=>yN fork n i i j (by omega));have k5:=qp (i:=i+1) (k:=i) (n:=n) 9 n (by omega);have k6:=jj (i:=i+1) (n:=n) 9 n (by omega);have k7:=cH (n:=i+1) n (iV fork n i) (i:=i) (by omega);have k8:=aY (iV fork n i i) hm;have hstep:iV fork n (i+1)=if i=0 then upd (iV fork n i) i i 2 else upd (upd (upd (iV fork n i) i i 2) i (Kz fork n i) (-1)) (Kz fork n i) i (-1):=rfl
  generalize iV fork n i=f at*
  refine aF fun _ K=>?_;simp(disch:=omega) only[kd];apply K
  refine bM rfl ?_;refine aH (aM ?_);refine aF fun _ K=>?_;simp only[kd];apply K
  refine aF fun _ K=>?_;simp(disch:=omega) only[kd,aa,ae,k1,Nat.reduceLeDiff,List.length_replicate,List.all_replicate,k3,ah];apply K
  refine bu.weak (aG (tm:=(.raw (.int .i64 (n:Int))::.raw (.bool fork)::jk::jk::jk::.one (.sl 9 0 0 n)::rN i::j4 (.raw (.int .i64 (n:Int))::rN i::j16 (j16 (j4 (j4 (j4 ([])))))))) (l:=[(9,kI 9 n n (i+1) f)]) ⟨?_,trivial⟩ (by simp[wk])) ?_
  ·first|exact k4|rfl
  refine aF fun _ K=>?_;simp(disch:=omega) only[kd,aa,k5,k7,k8,eP];apply K
  refine aF fun _ K=>?_;simp(disch:=omega) only[kd,aa,aT];apply K
  obtain⟨kz,hkz⟩: ∃kz:Int,kz=if fork=true/\i+1=n/\3<n then(i:Int)-2 else(i:Int)-1:=⟨_,rfl⟩
  refine aH (mY (S:=⟨(.raw (.int .i64 (n:Int))::.raw (.bool fork)::jk::jk::jk::.one (.sl 9 0 0 n)::rN i::.raw (.int .i64 kz)::jk::jk::jk::rN n::rN i::j16 (j16 (j4 (j4 (j4 ([])))))),Hm [(9,kI 9 n n (i+1) (upd f i i 2))]⟩) ?_ ?_)
  ·cases fork with
   |false=>
    rw[if_neg (by simp)]at hkz;refine aF fun _ K=>?_;simp(disch:=omega) only[kd,aa];apply K
    refine aU rfl (aO ?_);show cj _ _;refine aG ⟨rfl,trivial⟩ ?_;simp[wk,hkz]
   |true=>
    by_cases h1:i+1=n
    ·by_cases h2:3<n
     ·rw[if_pos ⟨rfl,h1,h2⟩]at hkz;refine aF fun _ K=>?_;simp(disch:=omega) only[kd,aa,aT];apply K
      refine bf rfl ?_;refine aN fun _ K=>?_;simp(disch:=omega) only[kd,aa,aT];apply K
      refine aG ⟨rfl,trivial⟩ ?_;simp[wk,hkz]
     rw[if_neg (by omega)]at hkz;refine aF fun _ K=>?_;simp(disch:=omega) only[kd,aa,aT];apply K
     refine aU rfl (aO ?_);show cj _ _;refine aG ⟨rfl,trivial⟩ ?_;simp[wk,hkz]
    rw[if_neg (by omega)]at hkz;refine aF fun _ K=>?_;simp(disch:=omega) only[kd,aa,aT];apply K
    refine aU rfl (aO ?_);show cj _ _;refine aG ⟨rfl,trivial⟩ ?_;simp[wk,hkz]
  by_cases h0:i=0
  ·subst h0;rw[if_neg (by omega)]at hkz;rw[if_pos rfl]at hstep;refine aF fun _ K=>?_;simp(disch:=omega) only[kd];apply K
   refine aU rfl (aO ?_);show bu _ _ _ _;refine aN fun _ K=>?_;simp(disch:=omega) only[kd,aT];apply K
   refine⟨⟨1,by omega⟩,by simp only;omega,aG ⟨?_,trivial⟩ ?_⟩
   ·simp only[hstep];rfl
   simp[wk]
  have hkk:kz=((Kz fork n i:Nat):Int):=by
   rw[hkz];unfold Kz;split<;>omega
  have hlt:=GL (fork:=fork) (n:=n) (show 0<i by omega);rw[if_neg h0]at hstep;subst hkk;generalize Kz fork n i=k at*
  generalize upd f i i 2=f2 at*
  have b1:=qp (i:=i+1) (k:=k) (n:=n) 9 n (by omega);have b2:=cH (n:=i+1) n f2 (i:=i) (by omega);have b3:=aY (f2 i) (show k<n by omega);have b4:=cH (n:=i+1) n (upd f2 i k (-1)) (i:=k) (by omega);have b5:=aY (upd f2 i k (-1) k) hm;refine aF fun _ K=>?_;simp(disch:=omega) only[kd];apply K
  refine bf rfl ?_;refine kS bj (by kernel_rfl) fun _ K=>?_;simp(disch:=omega) only[kd,aa,k5,b1,b2,b3,eP,b4,b5];apply K
  show bu _ _ _ _;refine aN fun _ K=>?_;simp(disch:=omega) only[kd,aT];apply K
  refine⟨⟨i+1,by omega⟩,by simp only;omega,aG ⟨?_,trivial⟩ ?_⟩
  ·simp only[hstep];rfl
  simp[wk]
 have hin:i=n:=by omega
 subst hin;refine aF fun _ K=>?_;simp(disch:=omega) only[kd];apply K
 refine bV rfl ?_;show bu _ _ _ _;rw[ou];refine aF fun _ K=>?_;simp only[kd];apply K
 refine aK ⟨.inr rfl,_,cj.refl _,?_⟩;refine⟨.one (.sl 9 0 0 i),9,?_,rfl,?_,rfl⟩
 ·simp(disch:=omega) only[kd,Tryz.results47]
 exact(cE 9 0 _ _ _).symm
def GoodP (n:Nat) (f:FF):Prop:=SymF f n/\yn f n/\detF n f<=10000
theorem Hj (n:Nat) (f:FF) (hn1:1<=n) (hn:n<=8) (hf: ∀i j:Nat,Ka (f i j)) (r:Bool) (hr:r=true↔GoodP n f):CallC Tryz.prog 50 [bS (bx n n f)] ⟨[],.raw (.bool r)⟩:=by
 have c1:=Nh n n f hn1 (by omega) hn1 (by omega) (fun i j _ _=>hf i j);obtain⟨e,he,c2⟩:=sj n n f hn1 (by omega) hn1 (by omega) (fun i j _ _=>(hf i j).sz (by omega));by_cases h1:e=0
 ·obtain⟨_,_,hs,hp⟩:=he.1 h1;subst h1;have c3:=fF n f hn1 (by omega) (fun i j _ _=>(hf i j).sz (by omega));have c4:=ee 10000 (by omega) (by omega);have c5:=r9 (detF n f) 10000 ((o7 (n:=n) (by omega) (fun i j _ _=>(hf i j).sz (by omega))).mono (by omega)) (jv (by decide) (by omega));have hle:=xa (detF n f) 10000;have hrr:r=decide (detF n f<=10000):=by
   cases r with
   |true=>have:=(hr.1 rfl).2.2;simp[this]
   |false=>
    have: ¬detF n f<=10000:=fun h=>by have:=hr.2 ⟨hs,hp,h⟩;cases this
    simp[this]
  rw[hrr];generalize detF n f=d at*
  refine aJ Tryz.func50 rfl (by kernel_rfl) ?_;rw[Tryz.ntmps50];refine aF fun _ K=>?_;simp only[kd,bS,ag];apply K
  refine aI [⟨1,_,_,_,c1⟩] [] fun _ K=>?_;simp only[kd,bS,bJ,aa];apply K
  refine aI [⟨1,_,_,_,c2⟩,⟨5,_,_,_,c3⟩,⟨6,_,_,_,c4⟩,⟨7,_,_,_,c5⟩] [] fun _ K=>?_;simp(disch:=omega) only[kd,bJ,tZ,aa,ah,hle];apply K
  (refine aK ⟨.inr rfl,aL rfl ?_ rfl⟩;simp(disch:=omega) only[kd,Tryz.results50])
 have hr0:r=false:=by
  cases r with
  |false=>rfl
  |true=>have:=hr.1 rfl;exact absurd (he.2 ⟨rfl,hn,this.1,this.2.1⟩) h1
 subst hr0;refine aJ Tryz.func50 rfl (by kernel_rfl) ?_;rw[Tryz.ntmps50];refine aF fun _ K=>?_;simp only[kd,bS,ag];apply K
 refine aI [⟨1,_,_,_,c1⟩] [] fun _ K=>?_;simp only[kd,bS,bJ,aa];apply K
 refine aI [⟨1,_,_,_,c2⟩] [] fun _ K=>?_;simp(disch:=omega) only[kd,bJ,aa,ah];apply K
 (refine aK ⟨.inr rfl,aL rfl ?_ rfl⟩;simp(disch:=omega) only[kd,Tryz.results50])
theorem Km {P:Program} {b:Nat} {ty:TypeId} {c z:Code} {Q:Exit->AS->List PV->Prop} {s S:AS} {cs cs1:List PV} (h1:eA P b ty c (rl (fun s' k=>cj s' S/\k=cs1) Q) s cs) (h2:eA P b ty z Q S cs1):eA P b ty c (rl (eA P b ty z Q) Q) s cs:=h1.mono fun e s' k h=>by
 cases e with
 |normal=>
  obtain⟨g1,rfl⟩:=h;exact eA.weak g1 h2
 |_=>exact h
def kE (kind:Nat) (L:List Int) (n:Nat):(Nat->Nat->Int)×Nat:=
 if kind%8<4 then oQ L (fY L 0 6,ke L 0 n) n
 else if kind%8=4 then(upd (iV false n n) 0 0 (iV false n n 0 0+(lX L 0 3:Int)),f6 L 0)
 else if kind%8=5 then(upd (iV true n n) (n-1) (n-1) (iV true n n (n-1) (n-1)+(lX L 0 2:Int)),f6 L 0)
 else if kind%8=6 then(fY L 0 9,ke L 0 n)
 else(fY L 0 1,ke L 0 n)
open Classical in
noncomputable def lS (kind:Nat) (L:List Int) (n:Nat):Nat->Nat->Int:=if GoodP n (kE kind L n).1 then(kE kind L n).1 else fY L (kE kind L n).2 2
theorem qM (f:FF) (i j:Nat) (v:Int) (a b:Nat):upd f i j v a b=v\/upd f i j v a b=f a b:=by
 by_cases h:a=i/\b=j
 ·obtain⟨rfl,rfl⟩:=h;exact .inl (ye f a b v)
 exact .inr (oO (by omega))
def Ay (f:FF):Prop:= ∀a b,-9<=f a b/\f a b<=9
theorem Ay.i64 {f:FF} (h:Ay f) (a b:Nat):Ka (f a b):=by have:=h a b;exact⟨by omega,by omega⟩
theorem Ay.upd {f:FF} (h:Ay f) {i j:Nat} {v:Int} (h1: -9<=v) (h2:v<=9):Ay (Go.Proofs.YtiollbhgpiiodaaGreatDoor.upd f i j v):=fun a b=>by
 rcases qM f i j v a b with e|e
 ·rw[e];exact⟨h1,h2⟩
 rw[e];exact h a b
theorem xd {L:List Int} {a most:Nat} (h1:0<most) (h2:most<=9):Ay (fY L a most):=fun i j=>by
 unfold fY;split
 ·have:=kZ (n:=most) L (ke L a i) h1;omega
 omega
theorem PF (x:Int): -2<=Int.tmod x 3/\Int.tmod x 3<=2:=by
 have h1:=Int.tmod_lt_of_pos x (show(0:Int)<3 by omega);have h2:=Int.lt_tmod_of_pos x (show(0:Int)<3 by omega);omega
theorem Ho {L:List Int} {i:Nat} {s:(Nat->Nat->Int)×Nat} (h:Ay s.1): ∀k,Ay (J2 L i s k).1
 |0=>h
 |k+1=>by
  have:=PF (L.getD (J2 L i s k).2 0);exact((Ho h k).upd (by omega) (by omega)).upd (by omega) (by omega)
theorem Hn {L:List Int} {s:(Nat->Nat->Int)×Nat} (h:Ay s.1): ∀i,Ay (oQ L s i).1
 |0=>h
 |i+1=>Ho (Hn h i) i
theorem og (fork:Bool) (n:Nat): ∀i a b,-1<=iV fork n i a b/\iV fork n i a b<=2
 |0,_,_=>by simp[iV]
 |i+1,a,b=>by
  have ih:=og fork n i;have u: ∀(f:FF) (i j:Nat) (v:Int),(∀a b,-1<=f a b/\f a b<=2)-> -1<=v/\v<=2-> ∀a b,-1<=upd f i j v a b/\upd f i j v a b<=2:=fun f i j v hf hv a b=>by
   rcases qM f i j v a b with e|e
   ·rw[e];exact hv
   rw[e];exact hf a b
  unfold iV;split
  ·exact u _ _ _ _ ih (by omega) a b
  exact u _ _ _ _ (u _ _ _ _ (u _ _ _ _ ih (by omega)) (by omega)) (by omega) a b
theorem DI (kind:Nat) (L:List Int) (n:Nat):Ay (kE kind L n).1:=by
 have b3:=kZ (n:=3) L 0 (by omega);have b2:=kZ (n:=2) L 0 (by omega);have c1:=og false n n 0 0;have c2:=og true n n (n-1) (n-1);unfold kE;split
 ·exact Hn (xd (by omega) (by omega)) n
 split
 ·exact Ay.upd (fun a b=>by have:=og false n n a b;omega) (by omega) (by omega)
 split
 ·exact Ay.upd (fun a b=>by have:=og true n n a b;omega) (by omega) (by omega)
 split
 ·exact xd (by omega) (by omega)
 exact xd (by omega) (by omega)
theorem Lv (kind:Nat) (L:List Int) (n:Nat):(kE kind L n).2<=L.length:=by
 unfold kE;split
 ·exact Bx (qf (by omega) n) n
 split
 ·exact nC (by omega)
 split
 ·exact nC (by omega)
 split
 ·exact qf (by omega) n
 exact qf (by omega) n
abbrev tL (dim kind:Nat) (L B:List Int):TV:= .agg [.p (.raw (.int .u8 (dim:Int))),.p (.raw (.int .u8 (kind:Int))),.p (.sl (ls f8 L)),.p (.sl (ls f8 B))]
theorem Nb (dim kind:Nat) (L B:List Int) (most n:Nat) (hL:I8 L) (hdim:dim<=255) (hkind:kind<=255) (hm1:1<=most) (hm8:most<=8) (hn:n=1+dim%most):
  CallC Tryz.prog 17 [tL dim kind L B,.raw (.int .i64 (most:Int))] ⟨[],bS (bx n n (lS kind L n))⟩:=by
 have hn1:1<=n:=by omega
 have hn8:n<=8:=by have:=Nat.mod_lt dim (show 0<most by omega);omega
 have e1:Int.tmod (dim:Int) (most:Int)=((dim%most:Nat):Int):=(Int.ofNat_tmod dim most).symm;have e2:Int.tmod (kind:Int) 8=((kind%8:Nat):Int):=(Int.ofNat_tmod kind 8).symm;have e3:1+((dim%most:Nat):Int)=(n:Int):=by omega
 refine aJ Tryz.func17 rfl (by kernel_rfl) ?_;rw[Tryz.ntmps17];refine aF fun _ K=>?_;simp(disch:=omega) only[kd,tL,aa,ag];apply K
 refine aF fun _ K=>?_;simp(disch:=omega) only[kd,aa,Nat.reduceLeDiff,ae];apply K
 refine Gh 11 (cs:=FK L 0) rfl fun b=>?_
 refine eA.weak (aG (tm:=(jk::rN most::.one (.ptr 2 0 0 0)::jk::jk::dq b::j16 (j16 (j16 (j16 (j4 ([]))))))) (l:=[(2,[⟨24,4,[[.p (.raw (.int .u8 (dim:Int))),.p (.raw (.int .u8 (kind:Int))),.p (.sl (ls f8 L)),.p (.sl (ls f8 B))]]⟩])]) ⟨rfl,trivial⟩ (by simp[wk,tA,kp])) ?_;refine aX fun _ K=>?_;simp(disch:=omega) only[kd,aa,dq,aT,e1,e3];apply K
 refine aX fun _ K=>?_;simp only[kd];apply K
 refine cL (aX fun _ K=>?_);simp(disch:=omega) only[kd,aa,e2];apply K;have hraw:=DI kind L n;have hple:=Lv kind L n;refine Km (S:=⟨(j4 (jk::dq b::rN n::bS (bx n n (kE kind L n).1)::j16 (j16 (j16 (j16 (jk::jk::[])))))),Hm []⟩) (cs1:=FK L (kE kind L n).2) ?_ ?_
 ·have hk8:=Nat.mod_lt kind (show 0<8 by omega);have hG:kind%8<4->kE kind L n=oQ L (fY L 0 6,ke L 0 n) n:=fun h=>by unfold kE;rw[if_pos h]
  have cg:=EK b L 0 n hL (by omega) hn8;have cha:=CS n false hn8;have chb:=CS n true hn8;have cb3:=wJ b L 0 3 hL (by omega) (by omega) (by omega);have cb2:=wJ b L 0 2 hL (by omega) (by omega) (by omega);have cd9:=lg b L 0 n 9 hL (by omega) hn8 (by omega) (by omega);have cd1:=lg b L 0 n 1 hL (by omega) hn8 (by omega) (by omega);rw[show((3:Nat):Int)=3 from rfl]at cb3;rw[show((2:Nat):Int)=2 from rfl]at cb2;rw[show((9:Nat):Int)=9 from rfl]at cd9;rw[show((1:Nat):Int)=1 from rfl]at cd1;have q3:=kZ (n:=3) L 0 (by omega);have q2:=kZ (n:=2) L 0 (by omega);have r1:=og false n n 0 0;have r2:=og true n n (n-1) (n-1);have x0:((n:Int)-1).toNat=n-1:=by omega
  have x1:=bZ (n:=n) (i:=0) 35 n (by omega);have x2:=cH (n:=n) n (iV false n n) (i:=0) (by omega);have x3:=aY (m:=n) (iV false n n 0) (j:=0) (by omega);have y1:=bZ (n:=n) (i:=n-1) 48 n (by omega);have y2:=cH (n:=n) n (iV true n n) (i:=n-1) (by omega);have y3:=aY (m:=n) (iV true n n (n-1)) (j:=n-1) (by omega);have hcase:kind%8=0\/kind%8=1\/kind%8=2\/kind%8=3\/kind%8=4\/kind%8=5\/kind%8=6\/kind%8=7:=by omega
  rcases hcase with hkk|hkk|hkk|hkk|hkk|hkk|hkk|hkk
  ·have hk:kind%8=0:=by omega
   rw[hk,show((0:Nat):Int)=0 from rfl];refine dE ?_;refine cL (aX fun _ K=>?_);simp(disch:=omega) only[kd];apply K;refine gT rfl (kh ?_);show eA _ _ _ _ _ _ _;refine gT rfl ?_;refine gU 2 cg [] [] (by kernel_rfl) (by rfl) (by rfl) fun _ K=>?_;simp only[kd,dq,aa,ae];apply K
   rw[hG (by omega)];refine⟨(aG (tm:=(j4 (jk::dq b::rN n::.one (.sl 31 0 0 n)::j16 (j16 (j16 (j16 (jk::jk::[]))))))) (l:=[(31,dc 31 n n ((oQ L (fY L 0 6,ke L 0 n) n).1))]) ⟨cE 0 31 n n _,trivial⟩ (by simp[wk])).trans ((bX 31 (dm rfl)).trans (aG (tm:=(j4 (jk::dq b::rN n::bS (bx n n ((oQ L (fY L 0 6,ke L 0 n) n).1))::j16 (j16 (j16 (j16 (jk::jk::[]))))))) (l:=[]) trivial (by
    simp[wk];exact⟨rfl,rfl,(l5 (H:=Hm [(31,dc 31 n n ((oQ L (fY L 0 6,ke L 0 n) n).1))]) (d:=31) (n:=n) (c:=n) (f:=(oQ L (fY L 0 6,ke L 0 n) n).1) rfl).symm⟩))),rfl⟩
  ·have hk:kind%8=1:=by omega
   rw[hk,show((1:Nat):Int)=1 from rfl];refine dE ?_;refine cL (aX fun _ K=>?_);simp(disch:=omega) only[kd];apply K;refine cQ rfl ?_;refine aX fun _ K=>?_;simp(disch:=omega) only[kd];apply K
   refine gT rfl (kh ?_);show eA _ _ _ _ _ _ _;refine gT rfl ?_;refine gU 2 cg [] [] (by kernel_rfl) (by rfl) (by rfl) fun _ K=>?_;simp only[kd,dq,aa,ae];apply K
   rw[hG (by omega)];refine⟨(aG (tm:=(j4 (jk::dq b::rN n::.one (.sl 31 0 0 n)::j16 (j16 (j16 (j16 (jk::jk::[]))))))) (l:=[(31,dc 31 n n ((oQ L (fY L 0 6,ke L 0 n) n).1))]) ⟨cE 0 31 n n _,trivial⟩ (by simp[wk])).trans ((bX 31 (dm rfl)).trans (aG (tm:=(j4 (jk::dq b::rN n::bS (bx n n ((oQ L (fY L 0 6,ke L 0 n) n).1))::j16 (j16 (j16 (j16 (jk::jk::[]))))))) (l:=[]) trivial (by
    simp[wk];exact⟨rfl,rfl,(l5 (H:=Hm [(31,dc 31 n n ((oQ L (fY L 0 6,ke L 0 n) n).1))]) (d:=31) (n:=n) (c:=n) (f:=(oQ L (fY L 0 6,ke L 0 n) n).1) rfl).symm⟩))),rfl⟩
  ·have hk:kind%8=2:=by omega
   rw[hk,show((2:Nat):Int)=2 from rfl];refine dE ?_;refine cL (aX fun _ K=>?_);simp(disch:=omega) only[kd];apply K;refine cQ rfl ?_;refine aX fun _ K=>?_;simp(disch:=omega) only[kd];apply K
   refine cQ rfl ?_;refine aX fun _ K=>?_;simp(disch:=omega) only[kd];apply K
   refine gT rfl (kh ?_);show eA _ _ _ _ _ _ _;refine gT rfl ?_;refine gU 2 cg [] [] (by kernel_rfl) (by rfl) (by rfl) fun _ K=>?_;simp only[kd,dq,aa,ae];apply K
   rw[hG (by omega)];refine⟨(aG (tm:=(j4 (jk::dq b::rN n::.one (.sl 31 0 0 n)::j16 (j16 (j16 (j16 (jk::jk::[]))))))) (l:=[(31,dc 31 n n ((oQ L (fY L 0 6,ke L 0 n) n).1))]) ⟨cE 0 31 n n _,trivial⟩ (by simp[wk])).trans ((bX 31 (dm rfl)).trans (aG (tm:=(j4 (jk::dq b::rN n::bS (bx n n ((oQ L (fY L 0 6,ke L 0 n) n).1))::j16 (j16 (j16 (j16 (jk::jk::[]))))))) (l:=[]) trivial (by
    simp[wk];exact⟨rfl,rfl,(l5 (H:=Hm [(31,dc 31 n n ((oQ L (fY L 0 6,ke L 0 n) n).1))]) (d:=31) (n:=n) (c:=n) (f:=(oQ L (fY L 0 6,ke L 0 n) n).1) rfl).symm⟩))),rfl⟩
  ·have hk:kind%8=3:=by omega
   rw[hk,show((3:Nat):Int)=3 from rfl];refine dE ?_;refine cL (aX fun _ K=>?_);simp(disch:=omega) only[kd];apply K;refine cQ rfl ?_;refine aX fun _ K=>?_;simp(disch:=omega) only[kd];apply K
   refine cQ rfl ?_;refine aX fun _ K=>?_;simp(disch:=omega) only[kd];apply K
   refine cQ rfl ?_;refine eZ fun _ K=>?_;simp(disch:=omega) only[kd];apply K
   show eA _ _ _ _ _ _ _;refine gT rfl ?_;refine gU 2 cg [] [] (by kernel_rfl) (by rfl) (by rfl) fun _ K=>?_;simp only[kd,dq,aa,ae];apply K
   rw[hG (by omega)];refine⟨(aG (tm:=(j4 (jk::dq b::rN n::.one (.sl 31 0 0 n)::j16 (j16 (j16 (j16 (jk::jk::[]))))))) (l:=[(31,dc 31 n n ((oQ L (fY L 0 6,ke L 0 n) n).1))]) ⟨cE 0 31 n n _,trivial⟩ (by simp[wk])).trans ((bX 31 (dm rfl)).trans (aG (tm:=(j4 (jk::dq b::rN n::bS (bx n n ((oQ L (fY L 0 6,ke L 0 n) n).1))::j16 (j16 (j16 (j16 (jk::jk::[]))))))) (l:=[]) trivial (by
    simp[wk];exact⟨rfl,rfl,(l5 (H:=Hm [(31,dc 31 n n ((oQ L (fY L 0 6,ke L 0 n) n).1))]) (d:=31) (n:=n) (c:=n) (f:=(oQ L (fY L 0 6,ke L 0 n) n).1) rfl).symm⟩))),rfl⟩
  ·have hk:kind%8=4:=by omega
   rw[hk,show((4:Nat):Int)=4 from rfl];refine dE ?_;refine cL (aX fun _ K=>?_);simp(disch:=omega) only[kd];apply K;refine cQ rfl ?_;refine aX fun _ K=>?_;simp(disch:=omega) only[kd];apply K
   refine cQ rfl ?_;refine aX fun _ K=>?_;simp(disch:=omega) only[kd];apply K
   refine cQ rfl ?_;refine eZ fun _ K=>?_;simp(disch:=omega) only[kd];apply K
   show eA _ _ _ _ _ _ _;refine cQ rfl ?_;refine aX fun _ K=>?_;simp(disch:=omega) only[kd];apply K
   refine gT rfl ?_;refine mc [⟨1,_,_,_,cha⟩] [] fun _ K=>?_;simp only[kd,aa,ae];apply K
   refine eA.weak (aG (tm:=(j4 (jk::dq b::rN n::.one (.sl 35 0 0 n)::j16 (j16 (j16 (j16 (jk::jk::[]))))))) (l:=[(35,dc 35 n n (iV false n n))]) ⟨cE 0 35 n n _,trivial⟩ (by simp[wk])) ?_;refine kV bj 6 cb3 [] [] (by kernel_rfl) (by kernel_rfl) (by rfl) (by rfl) fun _ K=>?_;simp(disch:=omega) only[kd,dq,aa,Int.reduceToNat,x1,x2,x3,aT,eP];apply K
   rw[show kE kind L n=(upd (iV false n n) 0 0 (iV false n n 0 0+(lX L 0 3:Int)),f6 L 0) by unfold kE;rw[if_neg (by omega),if_pos hk]];refine⟨(aG (tm:=(j4 (jk::dq b::rN n::.one (.sl 35 0 0 n)::j16 (j16 (j16 (j16 (jk::jk::[]))))))) (l:=[(35,dc 35 n n (upd (iV false n n) 0 0 (iV false n n 0 0+(lX L 0 3:Int))))]) ⟨rfl,trivial⟩ (by simp[wk])).trans ((bX 35 (dm rfl)).trans (aG (tm:=(j4 (jk::dq b::rN n::bS (bx n n (upd (iV false n n) 0 0 (iV false n n 0 0+(lX L 0 3:Int))))::j16 (j16 (j16 (j16 (jk::jk::[]))))))) (l:=[]) trivial (by
    simp[wk];exact⟨rfl,rfl,(l5 (H:=Hm [(35,dc 35 n n (upd (iV false n n) 0 0 (iV false n n 0 0+(lX L 0 3:Int))))]) (d:=35) (n:=n) (c:=n) (f:=upd (iV false n n) 0 0 (iV false n n 0 0+(lX L 0 3:Int))) rfl).symm⟩))),rfl⟩
  ·have hk:kind%8=5:=by omega
   rw[hk,show((5:Nat):Int)=5 from rfl];refine dE ?_;refine cL (aX fun _ K=>?_);simp(disch:=omega) only[kd];apply K;refine cQ rfl ?_;refine aX fun _ K=>?_;simp(disch:=omega) only[kd];apply K
   refine cQ rfl ?_;refine aX fun _ K=>?_;simp(disch:=omega) only[kd];apply K
   refine cQ rfl ?_;refine eZ fun _ K=>?_;simp(disch:=omega) only[kd];apply K
   show eA _ _ _ _ _ _ _;refine cQ rfl ?_;refine aX fun _ K=>?_;simp(disch:=omega) only[kd];apply K
   refine cQ rfl ?_;refine aX fun _ K=>?_;simp(disch:=omega) only[kd];apply K
   refine gT rfl ?_;refine mc [⟨1,_,_,_,chb⟩] [] fun _ K=>?_;simp only[kd,aa,ae];apply K
   refine eA.weak (aG (tm:=(j4 (jk::dq b::rN n::.one (.sl 48 0 0 n)::j16 (j16 (j16 (j16 (jk::jk::[]))))))) (l:=[(48,dc 48 n n (iV true n n))]) ⟨cE 0 48 n n _,trivial⟩ (by simp[wk])) ?_;refine kV bj 10 cb2 [] [] (by kernel_rfl) (by kernel_rfl) (by rfl) (by rfl) fun _ K=>?_;simp(disch:=omega) only[kd,dq,aa,aT,x0,y1,y2,y3,eP];apply K
   rw[show kE kind L n=(upd (iV true n n) (n-1) (n-1) (iV true n n (n-1) (n-1)+(lX L 0 2:Int)),f6 L 0) by unfold kE;rw[if_neg (by omega),if_neg (by omega),if_pos hk]];refine⟨(aG (tm:=(j4 (jk::dq b::rN n::.one (.sl 48 0 0 n)::j16 (j16 (j16 (j16 (jk::jk::[]))))))) (l:=[(48,dc 48 n n (upd (iV true n n) (n-1) (n-1) (iV true n n (n-1) (n-1)+(lX L 0 2:Int))))]) ⟨rfl,trivial⟩ (by simp[wk])).trans ((bX 48 (dm rfl)).trans (aG (tm:=(j4 (jk::dq b::rN n::bS (bx n n (upd (iV true n n) (n-1) (n-1) (iV true n n (n-1) (n-1)+(lX L 0 2:Int))))::j16 (j16 (j16 (j16 (jk::jk::[]))))))) (l:=[]) trivial (by
    simp[wk];exact⟨rfl,rfl,(l5 (H:=Hm [(48,dc 48 n n (upd (iV true n n) (n-1) (n-1) (iV true n n (n-1) (n-1)+(lX L 0 2:Int))))]) (d:=48) (n:=n) (c:=n) (f:=upd (iV true n n) (n-1) (n-1) (iV true n n (n-1) (n-1)+(lX L 0 2:Int))) rfl).symm⟩))),rfl⟩
  ·have hk:kind%8=6:=by omega
   rw[hk,show((6:Nat):Int)=6 from rfl];refine dE ?_;refine cL (aX fun _ K=>?_);simp(disch:=omega) only[kd];apply K;refine cQ rfl ?_;refine aX fun _ K=>?_;simp(disch:=omega) only[kd];apply K
   refine cQ rfl ?_;refine aX fun _ K=>?_;simp(disch:=omega) only[kd];apply K
   refine cQ rfl ?_;refine eZ fun _ K=>?_;simp(disch:=omega) only[kd];apply K
   show eA _ _ _ _ _ _ _;refine cQ rfl ?_;refine aX fun _ K=>?_;simp(disch:=omega) only[kd];apply K
   refine cQ rfl ?_;refine aX fun _ K=>?_;simp(disch:=omega) only[kd];apply K
   refine cQ rfl ?_;refine aX fun _ K=>?_;simp(disch:=omega) only[kd];apply K
   refine gT rfl ?_;refine gU 2 cd9 [] [] (by kernel_rfl) (by rfl) (by rfl) fun _ K=>?_;simp only[kd,dq,aa,ae];apply K
   rw[show kE kind L n=(fY L 0 9,ke L 0 n) by unfold kE;rw[if_neg (by omega),if_neg (by omega),if_neg (by omega),if_pos hk]];refine⟨(aG (tm:=(j4 (jk::dq b::rN n::.one (.sl 66 0 0 n)::j16 (j16 (j16 (j16 (jk::jk::[]))))))) (l:=[(66,dc 66 n n (fY L 0 9))]) ⟨cE 0 66 n n _,trivial⟩ (by simp[wk])).trans ((bX 66 (dm rfl)).trans (aG (tm:=(j4 (jk::dq b::rN n::bS (bx n n (fY L 0 9))::j16 (j16 (j16 (j16 (jk::jk::[]))))))) (l:=[]) trivial (by
    simp[wk];exact⟨rfl,rfl,(l5 (H:=Hm [(66,dc 66 n n (fY L 0 9))]) (d:=66) (n:=n) (c:=n) (f:=fY L 0 9) rfl).symm⟩))),rfl⟩
  have hk:kind%8=7:=by omega
  rw[hk,show((7:Nat):Int)=7 from rfl];refine dE ?_;refine cL (aX fun _ K=>?_);simp(disch:=omega) only[kd];apply K;refine cQ rfl ?_;refine aX fun _ K=>?_;simp(disch:=omega) only[kd];apply K
  refine cQ rfl ?_;refine aX fun _ K=>?_;simp(disch:=omega) only[kd];apply K
  refine cQ rfl ?_;refine eZ fun _ K=>?_;simp(disch:=omega) only[kd];apply K
  show eA _ _ _ _ _ _ _;refine cQ rfl ?_;refine aX fun _ K=>?_;simp(disch:=omega) only[kd];apply K
  refine cQ rfl ?_;refine aX fun _ K=>?_;simp(disch:=omega) only[kd];apply K
  refine cQ rfl ?_;refine aX fun _ K=>?_;simp(disch:=omega) only[kd];apply K
  refine cQ rfl ?_;refine gU 2 cd1 [] [] (by kernel_rfl) (by rfl) (by rfl) fun _ K=>?_;simp only[kd,dq,aa,ae];apply K
  rw[show kE kind L n=(fY L 0 1,ke L 0 n) by unfold kE;rw[if_neg (by omega),if_neg (by omega),if_neg (by omega),if_neg (by omega)]];refine⟨(aG (tm:=(j4 (jk::dq b::rN n::.one (.sl 23 0 0 n)::j16 (j16 (j16 (j16 (jk::jk::[]))))))) (l:=[(23,dc 23 n n (fY L 0 1))]) ⟨cE 0 23 n n _,trivial⟩ (by simp[wk])).trans ((bX 23 (dm rfl)).trans (aG (tm:=(j4 (jk::dq b::rN n::bS (bx n n (fY L 0 1))::j16 (j16 (j16 (j16 (jk::jk::[]))))))) (l:=[]) trivial (by
   simp[wk];exact⟨rfl,rfl,(l5 (H:=Hm [(23,dc 23 n n (fY L 0 1))]) (d:=23) (n:=n) (c:=n) (f:=fY L 0 1) rfl).symm⟩))),rfl⟩
 generalize hrw:kE kind L n=rg at*
 obtain⟨f,p⟩:=rg;simp only at hraw hple⊢;have e5:lS kind L n=(open Classical in if GoodP n f then f else fY L p 2):=by unfold lS;rw[hrw]
 by_cases hg:GoodP n f
 ·rw[if_pos hg]at e5;rw[e5];have c1:=Hj n f hn1 hn8 hraw.i64 true (by simp[hg]);refine cL (mc [⟨1,_,_,_,c1⟩] [] fun _ K=>?_);simp only[kd,bS,aa,dq];apply K;refine cQ rfl (kh ?_);show eA _ _ _ _ _ _ _;refine aX fun _ K=>?_;simp only[kd];apply K
  refine m9 ⟨.inr rfl,aL rfl ?_ rfl⟩;simp(disch:=omega) only[kd,Tryz.results17,bS]
 rw[if_neg hg]at e5;rw[e5];have c1:=Hj n f hn1 hn8 hraw.i64 false (by simp[hg]);have c2:=lg b L p n 2 hL hple hn8 (by omega) (by omega);rw[show((2:Nat):Int)=2 from rfl]at c2;refine cL (mc [⟨1,_,_,_,c1⟩] [] fun _ K=>?_);simp only[kd,bS,aa,dq];apply K;refine gT rfl ?_;refine qc 2 c2 [] [] (by kernel_rfl) (by rfl) (by rfl) fun _ K=>?_;simp only[kd,dq,aa];apply K
 refine eA.weak (aG (tm:=(j4 (.one (.sl 72 0 0 n)::j16 (j16 (j16 (j16 (j4 (jk::[])))))))) (l:=[(72,dc 72 n n (fY L p 2))]) ⟨cE 0 72 n n _,trivial⟩ (by simp[wk])) ?_;refine eA.weak ((bX 72 (dm rfl)).trans (aG (tm:=(j4 (bS (bx n n (fY L p 2))::j16 (j16 (j16 (j16 (j4 (jk::[])))))))) (l:=[]) trivial (by
  simp[wk];exact(l5 (H:=Hm [(72,dc 72 n n (fY L p 2))]) (d:=72) (n:=n) (c:=n) (f:=fY L p 2) rfl).symm))) ?_
 refine m9 ⟨.inr rfl,aL rfl ?_ rfl⟩;simp(disch:=omega) only[kd,Tryz.results17,bS]
theorem Gg (n c:Nat) (f:FF) (hn1:1<=n) (hn:n<=16) (hc1:1<=c) (hc:c<=16) (hf: ∀i j:Nat,i<n->j<c->Ka (f i j)):
  CallC Tryz.prog 43 [bJ (bx n c f)] ⟨dc 0 n c f,th n true⟩:=by
 have hS:=rB (bx n c f);rw[iS (pf f hn1 hn hc1 hc),bi,jm f hn1]at hS;refine aJ Tryz.func43 rfl (by kernel_rfl) ?_;rw[Tryz.ntmps43];refine aF fun _ K=>?_;simp only[kd,bJ,ag];apply K
 refine aI [⟨1,_,_,_,hS⟩] [] fun _ K=>?_;simp only[kd,bJ,aa];apply K
 refine aH (aF fun _ K=>?_);simp only[kd];apply K;refine aU rfl (aO ?_);show bu _ _ _ _;refine aF fun _ K=>?_;simp(disch:=omega) only[kd,aa];apply K
 refine aH (aF fun _ K=>?_);simp only[kd,aa];apply K;refine aZ (G:=kK n) (fun g=>⟨(bJ (bx n c f)::j4 (.raw (.int .i64 (c:Int))::jk::.one (.sl 21 0 0 n)::j4 (j4 (j4 (jk::jk::jk::rN n::rN g.i::j16 (j16 (j4 (jk::jk::[])))))))),Hm [(21,kI 21 n c g.i (part f g.i 0))]⟩) (fun g=>n-g.i) ⟨0,by omega⟩ ?_ ?_
 ·refine aG ⟨?_,trivial⟩ ?_
  ·show[_]=_;simp[gk,bx]
  simp[wk]
 rintro⟨i,hi⟩;simp only;by_cases hm:i<n
 ·have hr:=bD c f hm;have k1:=qr (i:=i) (n:=n) 21 c hm;have k2:=jj (i:=i) (n:=n) 21 c hi;have k3:=bi i c (part f i 0);have k4:=nk (i:=i) (n:=n) (c:=c) 21 (part f i 0) hm (fun j hj=>by unfold part;rw[if_neg (by omega)]);have k5:=qp (i:=i+1) (k:=i) (n:=n) 21 c (by omega);have k6:=jj (i:=i+1) (n:=n) 21 c (by omega);have k7:=cH (n:=i+1) c (part f i 0) (i:=i) (by omega);refine aF fun _ K=>?_;simp(disch:=omega) only[kd,bJ];apply K
  refine bM rfl ?_;refine aH (aM ?_);refine aF fun _ K=>?_;simp only[kd];apply K
  refine aF fun _ K=>?_;simp(disch:=omega) only[kd,aa,ae,k1,Nat.reduceLeDiff,List.length_replicate,List.all_replicate,k3,ah];apply K
  refine bu.weak (aG (tm:=(bJ (bx n c f)::j4 (.raw (.int .i64 (c:Int))::jk::.one (.sl 21 0 0 n)::rN i::j4 (j4 (j4 (jk::jk::rN n::rN i::j16 (j16 (j4 (jk::jk::[]))))))))) (l:=[(21,kI 21 n c (i+1) (part f i 0))]) ⟨?_,trivial⟩ (by simp[wk])) ?_
  ·first|exact k4|rfl
  refine aF fun _ K=>?_;simp(disch:=omega) only[kd,aa,bJ,k5];apply K
  refine aZ (G:=kK c) (fun g=>⟨(bJ (bx n c f)::j4 (.raw (.int .i64 (c:Int))::jk::.one (.sl 21 0 0 n)::rN i::j4 (j4 (j4 (jk::jk::rN n::rN i::j4 (j4 (jk::jk::jk::rN c::rN g.i::j16 (j4 (j4 (jk::[])))))))))),Hm [(21,kI 21 n c (i+1) (part f i g.i))]⟩) (fun g=>c-g.i) ⟨0,by omega⟩ ?_ ?_
  ·refine aG ⟨rfl,trivial⟩ ?_;simp[wk]
  rintro⟨j,hj⟩;simp only;by_cases hm3:j<c
  ·have hjr:=aY (f i) hm3;have hz:=hf i j hm hm3;have cI:=Kb (f i j) (hz.sz (by omega));rw[rp,if_pos (show -9223372036854775808<=f i j/\f i j<=9223372036854775807 from hz)]at cI;have q7:=cH (n:=i+1) c (part f i j) (i:=i) (by omega);have q8:=aY (part f i j i) hm3;refine aF fun _ K=>?_;simp(disch:=omega) only[kd,bJ];apply K
   refine bM rfl ?_;refine aH (aM ?_);refine aF fun _ K=>?_;simp only[kd];apply K
   refine aI [⟨7,_,_,_,cI⟩] [] fun _ K=>?_;simp(disch:=omega) only[kd,tZ,aa,hr,fR,hjr,fZ];apply K
   refine aH (aF fun _ K=>?_);simp only[kd];apply K;refine aU rfl (aO ?_);show bu _ _ _ _;refine aN fun _ K=>?_;simp(disch:=omega) only[kd,aa,k5,q7,q8,eP];apply K
   show bu _ _ _ _;refine aN fun _ K=>?_;simp(disch:=omega) only[kd,aT];apply K
   refine⟨⟨j+1,by omega⟩,by simp only;omega,aG ⟨?_,trivial⟩ ?_⟩
   ·show _::_=_::_;rw[cn fun a b _ _=>i5 f i j a b]
   simp[wk]
  have hjc:j=c:=by omega
  subst hjc;refine aF fun _ K=>?_;simp(disch:=omega) only[kd,bJ];apply K
  refine bV rfl ?_;show bu _ _ _ _;refine aN fun _ K=>?_;simp(disch:=omega) only[kd,aT];apply K
  refine⟨⟨i+1,by omega⟩,by simp only;omega,aG ⟨?_,trivial⟩ ?_⟩
  ·show _::_=_::_;rw[cn fun a b _ hb=>kA f i a b hb]
  simp[wk]
 have hin:i=n:=by omega
 subst hin;refine aF fun _ K=>?_;simp(disch:=omega) only[kd,bJ];apply K
 refine bV rfl ?_;show bu _ _ _ _;have e:kI 21 i c i (part f i 0)=dc 21 i c f:=by
  rw[ou];show _::_=_::_;rw[cn fun a b ha _=>kx f a b ha]
 rw[e];refine aF fun _ K=>?_;simp only[kd,aa];apply K
 refine aK ⟨.inr rfl,IF (d:=21) rfl ?_ (by decide)⟩;simp(disch:=omega) only[kd,Tryz.results43]
structure P6 (N B Z n:Nat) (f0 h T:FF) where
 f:Nat->Nat->Int
 t:Nat->Nat->Int
 s:Nat
 adds:Nat
 inv:RedI N B Z n f0 f t s adds
 rch:Rch n f t h T
theorem Bt (a b:Nat):Sz (idF a b) 1:=by unfold idF;split<;>exact jv (by decide) (by omega)
theorem Lx {N B S Z n:Nat} {f0 f t h T:FF} (kb:As N B S Z) (hn1:1<=n) (hn:n<=N) (hd:dk f0 n<=10000) (hr:Rch n f t h T): ∀s adds,RedI N B Z n f0 f t s adds->RedR h n:=by
 induction hr with
 |done f t hc=>exact fun s adds hI=>hI.red hn1 hd hc
 |step f t h T c hc _ ih=>
  intro s adds hI;cases c with
  |add i j=>exact ih _ _ (hI.add kb hn hc).1
  |swp m=>exact ih _ _ (hI.swap kb hn hc)
theorem E5 {N B S Z n:Nat} {f0 f t:FF} {s adds:Nat} (kb:As N B S Z) (h:RedI N B Z n f0 f t s adds) (hn:n<=N) {c:Ch} (hc:scanF f n=some c): ∀a b,a<n->b<n->Sz (MG f c a b) 500:=fun a b ha hb=>by
 obtain⟨hF,hi⟩:=ia hc;cases c with
 |add i j=>
  have hi:i<n:=hi;show Sz (Gv i j (cF f i j) a b) 500;rcases qM idF j i (cF f i j) a b with e|e
  ·unfold Gv;rw[e];exact(h.szc kb hn hi hF.1).mono (by have:=kb.z4;omega)
  unfold Gv;rw[e];exact(Bt a b).mono (by omega)
 |swp m=>exact(Bt _ b).mono (by omega)
theorem ND {n:Nat} (f:FF) {c:Ch} (hc:scanF f n=some c):bx n n (cngF n f (MG f c))=bx n n (Qj f c):=by
 obtain⟨hF,hi⟩:=ia hc;refine gX fun a b ha hb=>?_
 cases c with
 |add i j=>exact KC (by have:=hF.1;omega) (by have:i<n:=hi;have:=hF.1;omega) f a b ha hb
 |swp m=>exact NF hi f a b ha hb
structure D9 (N B Z n:Nat) (f:FF):Prop where
 good:GoodP n f
 sz: ∀i j,i<n->j<n->Sz (f i j) 400
 st:RedI N B Z n f f idF 0 0
theorem D9.dk {N B S Z n:Nat} {f:FF} (kb:As N B S Z) (k:D9 N B Z n f) (hn1:1<=n):dk f n<=10000:=by
 obtain⟨hs,hp,hd⟩:=k.good;have:=(xJ hp (n-1) (by omega)).2;rw[show n-1+1=n by omega]at this;omega
theorem D9.ex {N B S Z n:Nat} {f:FF} (kb:As N B S Z) (k:D9 N B Z n f) (hn1:1<=n) (hn:n<=N): ∃h T,RedR h n/\Rch n f idF h T:=by
 obtain⟨h,T,hr⟩:=oI (f0:=f) kb hn _ f idF 0 0 (Nat.le_refl _) k.st;exact⟨h,T,Lx kb hn1 hn (k.dk kb hn1) hr 0 0 k.st,hr⟩
theorem MT {n:Nat} {f:FF} (hn1:1<=n) (hn:n<=8) (hb:Ay f) (hg:GoodP n f):D9 8 bB 41 n f:=
 ⟨hg,fun i j _ _=>(hb.i64 i j).sz (by omega),RedI.start hn1 hn hg.1 hg.2.1 (fun a b=>by have:=hb a b;omega) (fun a b _ _=>Bt a b)⟩
theorem Ea {N B S Z:Nat} (kb:As N B S Z) (n:Nat) (f h T:FF) (hn1:1<=n) (hn:n<=N) (k:D9 N B Z n f) (hred:RedR h n) (hr:Rch n f idF h T):
  CallC Tryz.prog 16 [bJ (bx n n f)] ⟨dc 0 n n h,.tup [(false,[.sl 0 0 0 n]),(false,[.p (.sl (ls (fR fZ) (bx n n T)))]),(false,[.p (.raw (.int .i64 0))])]⟩:=by
 have hn8:n<=8:=Nat.le_trans hn kb.n8;have hst:=k.st;obtain⟨hs,hp,hd⟩:=k.good;have hsz: ∀i j,i<n->j<n->Sz (f i j) 1024:=fun i j hi hj=>(k.sz i j hi hj).mono (by omega)
 obtain⟨e,he,c1⟩:=sj n n f hn1 (by omega) hn1 (by omega) hsz;have he0:e=0:=he.2 ⟨rfl,hn8,hs,hp⟩;subst he0;have c2:=Jb n f hn1 (by omega) hsz;rw[decide_eq_true hd]at c2;have c3:=F9 n n f (by omega) hn1 (by omega) (fun i j hi hj=>(hsz i j hi hj).mono (by omega));have c4:=se n hn1 (by omega);have hml:=bi n n f;refine aJ Tryz.func16 rfl (by kernel_rfl) ?_;rw[Tryz.ntmps16];refine aF fun _ K=>?_;simp only[kd,aa,bJ,ag];apply K
 refine aH (aI [⟨1,_,_,_,c1⟩] [] fun _ K=>?_);simp only[kd,bJ,aa];apply K;refine aF fun _ K=>?_;simp(disch:=omega) only[kd];apply K
 refine aU rfl (aO ?_);show bu _ _ _ _;refine aH (aI [⟨1,_,_,_,c2⟩] [] fun _ K=>?_);simp only[kd,bJ,aa];apply K;refine aU rfl (aO ?_);show bu _ _ _ _;refine aI [⟨1,_,_,_,c3⟩] [] fun _ K=>?_;simp only[kd,bJ,aa];apply K
 refine aI [⟨2,_,_,_,c4⟩] [] fun _ K=>?_;simp only[kd,aa,hml,ae];apply K
 refine aZ (G:=P6 N B Z n f h T) (fun g=>⟨(j4 (jk::jk::bJ (bx n n g.f)::bJ (bx n n g.t)::j16 (j16 (j4 (j4 (jk::[])))))),Hm []⟩) (fun g=>ML S n g.f g.s) ⟨f,idF,0,0,hst,hr⟩ ?_ ?_
 ·refine(aG (tm:=(j4 (jk::jk::.one (.sl 22 0 0 n)::.one (.sl 26 0 0 n)::j16 (j16 (j4 (j4 (jk::[]))))))) (l:=[(22,iv 22 n n f),(26,iv 26 n n idF)]) ⟨fQ 0 22 n n _,fQ 0 26 n n _,trivial⟩ (by simp[wk])).trans ((bX 22 (jF rfl)).trans ((aG (tm:=(j4 (jk::jk::bJ (bx n n f)::.one (.sl 26 0 0 n)::j16 (j16 (j4 (j4 (jk::[]))))))) (l:=[(26,iv 26 n n idF)]) ⟨rfl,trivial⟩ (by
   simp[wk];exact⟨(MK (H:=Hm [(22,iv 22 n n f),(26,iv 26 n n idF)]) (d:=22) (n:=n) (c:=n) (f:=f) rfl).symm,rfl⟩)).trans ((bX 26 (jF rfl)).trans (aG trivial ?_))))
  simp[wk];exact⟨rfl,(MK (H:=Hm [(26,iv 26 n n idF)]) (d:=26) (n:=n) (c:=n) (f:=idF) rfl).symm⟩
 rintro⟨g,t,s,adds,hI,hrc⟩;simp only;have cs:=Ox n g hn1 hn8 hI.dfn.pos (fun i j hi hj=>(hI.szf kb hn hi hj).mono (by omega));cases hc:scanF g n with
 |none=>
  obtain⟨rfl,rfl⟩:g=h/\t=T:=by
   cases hrc with
   |done _ _ _=>exact⟨rfl,rfl⟩
   |step _ _ _ _ c hc' _=>rw[hc]at hc';cases hc'
  have hes:=kn hn1 hn8 hred;have ct:=Gg n n g hn1 (by omega) hn1 (by omega) (fun i j hi hj=>by have:=hes i hi j hj;exact⟨by omega,by omega⟩);rw[hc]at cs;refine aM ?_;refine aI [⟨1,_,_,_,cs⟩] [] fun _ K=>?_;simp only[kd,bJ,OV,aa];apply K
  refine aH (aF fun _ K=>?_);simp only[kd];apply K;refine bf rfl ?_;refine aI [⟨1,_,_,_,ct⟩] [] fun _ K=>?_;simp only[kd,bJ,th,aa];apply K
  refine bu.weak (aG (tm:=(j4 (jk::jk::jk::bJ (bx n n t)::jk::jk::jk::.one (.sl 38 0 0 n)::j16 (j16 (j4 (jk::[])))))) (l:=[(38,dc 38 n n g)]) ⟨cE 0 38 _ _ _,trivial⟩ (by simp[wk])) ?_;refine aF fun _ K=>?_;simp only[kd,aa,bJ];apply K
  refine aK ⟨.inr rfl,_,cj.refl _,?_⟩;refine⟨.tup [(false,[.sl 38 0 0 n]),(false,[.p (.sl (ls (fR fZ) (bx n n t)))]),(false,[.p (.raw (.int .i64 0))])],38,?_,uz (by simp[iM,dK]) (by decide),(cE 38 0 _ _ _).symm,rfl⟩;simp(disch:=omega) only[kd,Tryz.results16]
 |some c=>
  have hrc':Rch n (Qj g c) (em n t (MG g c)) h T:=by
   cases hrc with
   |done _ _ hc'=>rw[hc]at hc';cases hc'
   |step _ _ _ _ c' hc' hr'=>
    rw[hc]at hc';injection hc' with hc'
    subst hc';exact hr'
  rw[hc]at cs;have hch:=E5 kb hI hn hc;have ha:=hI.adds_le kb hn;have cc:=yi n g (MG g c) hn1 (by omega) (fun i j hi hj=>(hI.szf kb hn hi hj).mono (by omega)) (fun i j hi hj=>(hch i j hi hj).mono (by omega));rw[ND g hc]at cc;have cp:=qb n n n t (MG g c) hn1 (by omega) hn1 (by omega) hn1 (by omega) (fun i j hi hj=>(hI.szt i j hi hj).mono (Nat.le_trans (Nat.add_le_add_left (Nat.mul_le_mul_left (Z+4) ha) 1) (by have:=kb.sz;omega))) (fun i j hi hj=>(hch i j hi hj).mono (by omega));refine aM ?_;refine aI [⟨1,_,_,_,cs⟩] [] fun _ K=>?_;simp only[kd,bJ,OV,aa];apply K
  refine aH (aF fun _ K=>?_);simp only[kd];apply K;refine aU rfl (aO ?_);show bu _ _ _ _;refine ma [⟨2,_,_,_,cc⟩,⟨5,_,_,_,cp⟩] [] fun _ K=>?_;simp only[kd,bJ,aa,ah];apply K
  cases c with
  |add i j=>
   refine⟨⟨_,_,s,adds+1,(hI.add kb hn hc).1,hrc'⟩,hI.mu_add kb hn hc,aG trivial ?_⟩;simp[wk];exact⟨rfl,rfl⟩
  |swp m=>
   refine⟨⟨_,_,s+1,adds,hI.swap kb hn hc,hrc'⟩,hI.mu_swap kb hn hc,aG trivial ?_⟩;simp[wk];exact⟨rfl,rfl⟩
theorem xe {f:FF} (h0: ∀a b,a≠b->f a b=0) (h1: ∀a,0<f a a): ∀k,(0<dk f k/\ ∀t,t<k->0<dk f (t+1))/\ ∀a b,k<=a->k<=b->bk f k a b=dk f k*f a b
 |0=>⟨⟨by rw[de];omega,fun t ht=>by omega⟩,fun a b _ _=>by rw[dr,de,Int.one_mul]⟩
 |k+1=>by
  obtain⟨⟨p0,p1⟩,p2⟩:=xe h0 h1 k;have e:dk f (k+1)=dk f k*f k k:=by rw[b8,p2 k k (by omega) (by omega)]
  have hpos:0<dk f (k+1):=by rw[e];exact Int.mul_pos p0 (h1 k)
  refine⟨⟨hpos,fun t ht=>?_⟩,fun a b ha hb=>?_⟩
  ·by_cases et:t=k
   ·subst et;exact hpos
   exact p1 t (by omega)
  have s:=sylv f k (fun t ht=>by have:=p1 t ht;omega) a b;rw[p2 a b (by omega) (by omega),p2 a k (by omega) (by omega),h0 a k (by omega),Int.mul_zero,Int.zero_mul,Int.sub_zero]at s;refine Int.eq_of_mul_eq_mul_left (show dk f k≠0 by omega) ?_;rw[s];exact Int.mul_left_comm _ _ _
theorem C4 {f:FF} (h0: ∀a b,a≠b->f a b=0) (h1: ∀a,0<f a a) (h2: ∀a,f a a<=2): ∀k,dk f k<=2^k
 |0=>by rw[de];decide
 |k+1=>by
  obtain⟨⟨p0,_⟩,p2⟩:=xe h0 h1 k;rw[b8,p2 k k (by omega) (by omega),Int.pow_succ];have ih:=C4 h0 h1 h2 k;exact Int.mul_le_mul ih (h2 k) (Int.le_of_lt (h1 k)) (Int.le_trans (Int.le_of_lt p0) ih)
theorem GT (L:List Int) (p n:Nat) (hn1:1<=n) (hn:n<=8):GoodP n (fY L p 2):=by
 have h0: ∀a b,a≠b->fY L p 2 a b=0:=fun a b h=>by unfold fY;rw[if_neg h]
 have h1: ∀a,0<fY L p 2 a a:=fun a=>by unfold fY;rw[if_pos rfl];omega
 have h2: ∀a,fY L p 2 a a<=2:=fun a=>by
  unfold fY;rw[if_pos rfl];have:=kZ (n:=2) L (ke L p a) (by omega);omega
 have hpos: ∀k,0<dk (fY L p 2) (k+1):=fun k=>(xe h0 h1 (k+1)).1.1
 have hdet: ∀k,detF (k+1) (fY L p 2)=dk (fY L p 2) (k+1):=fun k=>o6 fun t _=>by have:=hpos t;omega
 refine⟨fun a _ b _=>?_,fun k _=>by rw[hdet];exact hpos k,?_⟩
 ·by_cases e:a=b
  ·rw[e]
  rw[h0 a b e,h0 b a (Ne.symm e)]
 have e:=hdet (n-1);rw[show n-1+1=n by omega]at e;rw[e];have h3:=C4 h0 h1 h2 n;have h4:(2:Int)^n<=2^8:=by
  have:=Nat.pow_le_pow_right (show 0<2 by omega) hn
  exact_mod_cast this
 have h5:(2:Int)^8=256:=by decide
 omega
theorem tj (kind:Nat) (L:List Int) (n:Nat) (hn1:1<=n) (hn:n<=8):GoodP n (lS kind L n)/\Ay (lS kind L n):=by
 unfold lS;split
 ·rename_i h;exact⟨h,DI kind L n⟩
 exact⟨GT L _ n hn1 hn,xd (by omega) (by omega)⟩
theorem J9 (dim kind:Nat) (L B:List Int) (most n:Nat) (h T:FF) (hL:I8 L) (hdim:dim<=255) (hkind:kind<=255) (hm1:1<=most) (hm8:most<=8) (hn:n=1+dim%most) (hr:RedR h n) (hT:Rch n (lS kind L n) idF h T):
  CallC Tryz.prog 5 [tL dim kind L B,.raw (.int .i64 (most:Int))] ⟨dc 0 n n h,.one (.sl 0 0 0 n)⟩:=by
 have hn1:1<=n:=by omega
 have hn8:n<=8:=by have:=Nat.mod_lt dim (show 0<most by omega);omega
 have c1:=Nb dim kind L B most n hL hdim hkind hm1 hm8 hn;obtain⟨hg,hb⟩:=tj kind L n hn1 hn8;have c3:=Ea Qh n (lS kind L n) h T hn1 hn8 (MT hn1 hn8 hb hg) hr hT;have c2:=Nh n n (lS kind L n) hn1 (by omega) hn1 (by omega) (fun i j _ _=>hb.i64 i j);generalize lS kind L n=gg at*
 refine aJ Tryz.func5 rfl (by kernel_rfl) ?_;rw[Tryz.ntmps5];refine aF fun _ K=>?_;simp(disch:=omega) only[kd,tL,aa,ag];apply K
 refine aI [⟨2,_,_,_,c1⟩,⟨3,_,_,_,c2⟩,⟨4,_,_,_,c3⟩] [] fun _ K=>?_;simp only[kd,tL,bS,bJ,aa,ah,ae];apply K
 refine bu.weak (aG (tm:=(j4 (jk::.one (.sl 13 0 0 n)::j4 (j4 (j4 ([])))))) (l:=[(13,dc 13 n n h)]) ⟨cE 0 13 _ _ _,trivial⟩ (by simp[wk])) ?_;refine aF fun _ K=>?_;simp only[kd];apply K
 refine aK ⟨.inr rfl,_,cj.refl _,?_⟩;refine⟨.one (.sl 13 0 0 n),13,?_,rfl,(cE 13 0 _ _ _).symm,rfl⟩;simp(disch:=omega) only[kd,Tryz.results5]
theorem J8 (dim kind:Nat) (L B:List Int) (most n:Nat) (h T:FF) (hL:I8 L) (hdim:dim<=255) (hkind:kind<=255) (hm1:1<=most) (hm8:most<=8) (hn:n=1+dim%most) (hr:RedR h n) (hT:Rch n (lS kind L n) idF h T):
  CallC Tryz.prog 5 [tL dim kind L B,.raw (.int .i64 (most:Int))] ⟨[],bS (bx n n h)⟩:=
 (J9 dim kind L B most n h T hL hdim hkind hm1 hm8 hn hr hT).fzI
theorem Na (kind:Nat) (L:List Int) {n:Nat} (hn1:1<=n) (hn8:n<=8): ∃h T,RedR h n/\Rch n (lS kind L n) idF h T:=by
 obtain⟨hg,hb⟩:=tj kind L n hn1 hn8;exact(MT hn1 hn8 hb hg).ex Qh hn1 hn8
theorem M9 (dim kind:Nat) (L B:List Int) (most n:Nat) (hL:I8 L) (hdim:dim<=255) (hkind:kind<=255) (hm1:1<=most) (hm8:most<=8) (hn:n=1+dim%most):
  ∃h,RedR h n/\CallC Tryz.prog 5 [tL dim kind L B,.raw (.int .i64 (most:Int))] ⟨[],bS (bx n n h)⟩:=by
 obtain⟨h,T,h1,h2⟩:=Na kind L (n:=n) (by omega) (by have:=Nat.mod_lt dim (show 0<most by omega);omega);exact⟨h,h1,J8 dim kind L B most n h T hL hdim hkind hm1 hm8 hn h1 h2⟩
section
open Go.ChangeShapes Go.WideShapes Go.ChangeAt Go.RowKit
theorem Ly {w:World} {l:List Int} {A:Option Addr} {c:Nat} (hl:l.length<=c) (hm:l.length<=9223372036854775807) (h:RdI .i8 w A l):cu (fun _=>False) w (.sl (ls f8 l)) (.slice A l.length c):=by
 cases l with
 |nil=>exact cu.nil _ _
 |cons z0 l0=>
  obtain⟨b,off,rfl,hc⟩:=h (by simp);have h0:=hc 0 (.int .i8 z0) (by simp);have hb:b<w.heap.size:=nf h0;have:=cu.sl (X:=fun _=>False) (w:=w) b off 1 c (ls f8 (z0::l0)) (fun i _=> .int .i8 ((z0::l0).getD i 0)) (fun h=>h) hb (fun e he=>by
   obtain⟨z,_,rfl⟩:=List.mem_map.1 he;rfl) (by rw[ff];exact hl) (by rw[ff];exact hm) (fun i e j x he hx=>by
   rw[gH]at he;obtain⟨z,hz,rfl⟩:=Option.map_eq_some_iff.1 he;cases j with
   |succ j=>simp[f8]at hx
   |zero=>
    have:=hc i (.int .i8 z) (by rw[List.getElem?_map,hz];rfl);simp only[Nat.mul_one,Nat.add_zero,List.getD_eq_getElem?_getD,hz,Option.getD_some];exact this) (fun i e j x he hx=>by
   rw[gH]at he;obtain⟨z,hz,rfl⟩:=Option.map_eq_some_iff.1 he;cases j with
   |succ j=>simp[f8]at hx
   |zero=>
    simp[f8]at hx;subst hx;simp only[List.getD_eq_getElem?_getD,hz,Option.getD_some];exact cu.raw _ rfl)
  rw[ff]at this;exact this
theorem tT {H:Type} {enc:TypeId×Value->H} {P:Program} {W:World} {base:Nat} {held:Bool} {t e:TypeId} {n:Nat} {v:Value} {y:DataW H×List MemPlace}
  (ht:P.underlying t=some (.slice e)) (he:P.underlying e=some (.int .i8)) (hc:P.cellsOf e=1) (h:DataW.trod enc P W base (fun _=>true) held n t [v]=some y):
  ∃L:List Int,cu (fun _=>False) W (.sl (ls f8 L)) v/\I8 L:=by
 rcases DataW.trod_slice ht h with⟨hcs,_⟩|⟨x,l,c,_,_,_,_,hcs,_⟩
 ·simp at hcs;subst hcs;exact⟨[],cu.nil _ _,fun z hz=>by simp at hz⟩
 simp at hcs;subst hcs;obtain⟨zs,g1,g2,g3,g4,g5,_⟩:=Il (enc:=enc) (base:=base) (held:=held) (d:=y.1) (p:=y.2) ht he hc ⟨n,by simpa[Value.cells] using h⟩;refine⟨zs,?_,fun z hz=>JT (g5 z hz)⟩;rw[g1];unfold maxLen at g3;exact Ly (by omega) (by omega) g4
theorem tU {H:Type} {enc:TypeId×Value->H} {P:Program} {W:World} {base:Nat} {held:Bool} {t:TypeId} {n:Nat} {v:Value} {y:DataW H×List MemPlace}
  (ht:P.underlying t=some (.int .u8)) (h:DataW.trod enc P W base (fun _=>true) held n t [v]=some y): ∃m:Nat,v= .int .u8 (m:Int)/\m<=255:=by
 obtain⟨m,hv,_,hw⟩:=DataW.trod_int ht h;have:=JU hw;refine⟨m.toNat,?_,by omega⟩;simp at hv;rw[hv]
 congr 1
 omega
theorem Pv {w:World} {d k:Nat} {L B:List Int} {v2 v3:Value} (h2:cu (fun _=>False) w (.sl (ls f8 L)) v2) (h3:cu (fun _=>False) w (.sl (ls f8 B)) v3):
  (tL d k L B).rel (fun _ _=>none) (fun _=>[]) (fun _=>False) w (.agg #[.int .u8 (d:Int),.int .u8 (k:Int),v2,v3]):=by
 refine⟨#[.int .u8 (d:Int),.int .u8 (k:Int),v2,v3],rfl,rfl,fun j x hx=>?_⟩
 match j,hx with
 |0,hx=>simp at hx;subst hx;exact⟨_,rfl,rfl,cu.raw _ rfl⟩
 |1,hx=>simp at hx;subst hx;exact⟨_,rfl,rfl,cu.raw _ rfl⟩
 |2,hx=>simp at hx;subst hx;exact⟨_,rfl,h2.one,h2⟩
 |3,hx=>simp at hx;subst hx;exact⟨_,rfl,h3.one,h3⟩
 |j+4,hx=>simp at hx
theorem Pg {w:World}: ∀{ts:List TV} {vs:List Value},ts.length=vs.length->(∀(j:Nat) t v,ts[j]?=some t->vs[j]?=some v->t.rel (fun _ _=>none) (fun _=>[]) (fun _=>False) w v)->
  ∀(j:Nat) t,ts[j]?=some t-> ∃v:Value,vs.toArray[j]?=some v/\t.rel (fun _ _=>none) (fun _=>[]) (fun _=>False) w v:=fun{ts vs} hl h j t hj=>by
 have hlt:=(List.getElem?_eq_some_iff.1 hj).1;obtain⟨v,hv⟩: ∃v,vs[j]?=some v:=⟨_,List.getElem?_eq_getElem (by omega)⟩;exact⟨v,by simpa using hv,h j t v hj hv⟩
end
def fl (c:Nat) (g:FF):Nat->Int:=fun k=>g (k/c) (k%c)
theorem Pk {c:Nat} (g:FF) {i j:Nat} (hj:j<c):fl c g (i*c+j)=g i j:=by
 unfold fl;have h:=xf (i:=i) (j:=j) (sz:=c) hj;rw[h.1,h.2]
theorem pb {n c:Nat} {g g':FF} (h: ∀a b,a<n->b<c->g a b=g' a b):bT (n*c) (fl c g)=bT (n*c) (fl c g'):=f7 fun k hk=>by
 have hc:0<c:=by
  rcases Nat.eq_zero_or_pos c with h|h
  ·subst h;simp at hk
  exact h
 exact h _ _ (Nat.div_lt_of_lt_mul (by rw[Nat.mul_comm];exact hk)) (Nat.mod_lt _ hc)
theorem Hd {n c i j:Nat} (g:FF) {v:Int} (hi:i<n) (hj:j<c):(bT (n*c) (fl c g)).set (i*c+j) v=bT (n*c) (fl c (upd g i j v)):=by
 rw[pJ];refine f7 fun k hk=>?_
 have hc:0<c:=by omega
 unfold fl upd;by_cases h:k=i*c+j
 ·subst h;have h:=xf (i:=i) (j:=j) (sz:=c) hj;rw[h.1,h.2];simp
 rw[if_neg h];by_cases h1:k/c=i
 ·have h2:k%c≠j:=fun hh=>h (by
   have:=Nat.div_add_mod k c;rw[h1,hh,Nat.mul_comm]at this;exact this.symm)
  rw[if_pos h1];show _=if k%c=j then v else g i (k%c)
  rw[if_neg h2,h1]
 rw[if_neg h1]
theorem Dq (l:List Int) (k:Nat) (v:Int):(lc fZ l).set k [.p (.raw (.bool (decide (v<0)))),.p (.sl (ls fU (aR v.natAbs)))]=lc fZ (l.set k v):=by
 rw[<- xu];rfl
def Co (d n c i:Nat):List (List AV):=(List.range n).map fun k=>if k<i then[.sl d 1 (k*c) c]else[.p (.sl [])]
def x9 (d n c i:Nat) (g:FF):List OObj:=[⟨61,1,Co d n c i⟩,⟨32,2,lc fZ (bT (n*c) (fl c g))⟩]
theorem pV (d n c i:Nat):(Co d n c i).length=n:=by simp[Co]
theorem jP {d n c i k:Nat} (h:k<n):(Co d n c i)[k]?=some (if k<i then[.sl d 1 (k*c) c]else[.p (.sl [])]):=by
 unfold Co;rw[List.getElem?_map,List.getElem?_range h];rfl
theorem DV {d n c i:Nat}:(Co d n c i).set i [.sl d 1 (i*c) c]=Co d n c (i+1):=by
 apply List.ext_getElem?;intro k;by_cases hk:k<n
 ·by_cases h:k=i
  ·subst h;rw[List.getElem?_set_self (by rw[pV];exact hk),jP hk,if_pos (Nat.lt_succ_self k)]
  rw[List.getElem?_set_ne (Ne.symm h),jP hk,jP hk];by_cases h2:k<i
  ·rw[if_pos h2,if_pos (by omega)]
  rw[if_neg h2,if_neg (by omega)]
 rw[au (by rw[List.length_set,pV];omega),au (by rw[pV];omega)]
theorem Ak (d n c:Nat):([⟨61,1,ag n [.raw (.slice none 0 0)]⟩]:List OObj).map zO=[⟨61,1,Co d n c 0⟩]:=by
 simp[zO,Co,Ax,CC,List.map_const']
theorem DX (n c:Nat) (g:FF):([⟨32,2,ag (n*c) [.raw (.bool false),.raw (.slice none 0 0)]⟩]:List OObj).map zO=[⟨32,2,lc fZ (bT (n*c) (fl c (part g 0 0)))⟩]:=by
 have e2:bT (n*c) (fl c (part g 0 0))=ag (n*c) 0:=by
  apply List.ext_getElem?;intro b;by_cases hb:b<n*c
  ·rw[aY _ hb,List.getElem?_replicate,if_pos hb];simp[fl,part]
  rw[au (by rw[bE];omega),au (by simp;omega)]
 simp[e2,zO,lc,fZ,Ax,CC,cw,ls]
theorem Aj (ty d n c:Nat):pz ⟨ty,1,Co d n c 0⟩:=fun e he x hx=>by
 simp only[Co,List.mem_map]at he;obtain⟨k,_,rfl⟩:=he;simp at hx;subst hx;rfl
theorem DW {H:OH} {d n c i:Nat} {g:FF} (h:H d=x9 d n c i g):uU H d:=fun r o ho e he x hx=>by
 rw[h]at ho
 match r,ho with
 |0,ho=>
  simp[x9]at ho;subst ho;simp only[Co,List.mem_map]at he;obtain⟨k,_,rfl⟩:=he;split at hx
  ·simp at hx;subst hx;exact .inr ⟨1,_,_,⟨32,2,lc fZ (bT (n*c) (fl c g))⟩,rfl,by rw[h];rfl,d6 _ _ _⟩
  simp at hx;subst hx;exact .inl rfl
 |1,ho=>
  simp[x9]at ho;subst ho;exact .inl (d6 _ _ _ e he x hx)
 |r+2,ho=>simp[x9]at ho
theorem Fu {n c i:Nat} (g:FF) (hi:i<n):((bT (n*c) (fl c g)).take (i*c+c)).drop (i*c)=bT c (g i):=by
 have hk:i*c+c<=n*c:=by
  have:=Nat.mul_le_mul_right c hi;rw[Nat.succ_mul]at this;exact this
 apply List.ext_getElem?;intro j;rw[List.getElem?_drop,List.getElem?_take];by_cases hj:j<c
 ·rw[if_pos (by omega),aY _ (by omega),Pk g hj,aY _ hj]
 rw[if_neg (by omega),au (by rw[bE];omega)]
theorem Jm {H:OH} {n c:Nat} {g:FF} (_hc:1<=c) (h:H 5016=x9 5016 n c n g):gO H 5016 (.one (.sl 5016 0 0 n))= .one (.p (.sl (ls (fR fZ) (bx n c g)))):=by
 have h0:(H 5016)[0]?=some ⟨61,1,Co 5016 n c n⟩:=by rw[h];rfl
 have h1:(H 5016)[1]?=some ⟨32,2,lc fZ (bT (n*c) (fl c g))⟩:=by rw[h];rfl
 simp only[gO,fj,if_true,h0]
 congr 3
 rw[Nat.zero_add,List.drop_zero,List.take_of_length_le (by rw[pV];exact Nat.le_refl _)];apply List.ext_getElem?;intro k;rw[List.getElem?_map,gH];by_cases hk:k<n
 ·rw[jP hk,if_pos hk,bD c g hk];simp only[Option.map_some,List.map_cons,List.map_nil,jC,h1,fP,xq,Fu g hk,rK];rfl
 rw[au (by rw[pV];omega),au (by rw[bi];omega)];rfl
end Go.Proofs.YtiollbhgpiiodaaGreatDoor
