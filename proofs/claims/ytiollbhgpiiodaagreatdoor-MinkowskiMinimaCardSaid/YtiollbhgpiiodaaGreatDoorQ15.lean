/-
  Part 16 of a proof (walks and plain facts).
-/
import Derived.Test.YtiollbhgpiiodaaGreatDoorQ14
import Derived.Lib.SmallJoins
set_option linter.all false
set_option maxRecDepth 100000
set_option maxHeartbeats 64000000
open Nat renaming reduceAdd → aa
open Nat renaming reduceEqDiff → ab
open List renaming replicate → ae
open List renaming mem_map → ak
open List renaming getElem?_eq_none → ar
namespace Go.Proofs.YtiollbhgpiiodaaGreatDoor
open Go.RowKit
theorem QM (m:Nat):swp (m+1) m idF=Kg m:=by
 funext a;unfold swp Kg o9;by_cases h1:a=m+1
 ·subst h1;simp
 by_cases h2:a=m
 ·subst h2;simp
 simp[h1,h2]
def Uh (n:Nat) (f:FF):Option Ch->TV
 |none=> .tup [(false,[.p (.raw (.slice none 0 0))]),(false,[.p (.raw (.bool false))])]
 |some c=> .tup [(false,[.p (.sl (ls (fR fZ) (bi n n (Rw f c))))]),(false,[.p (.raw (.bool true))])]
structure WB (n:Nat) (f:FF) where
 i:Nat
 hi:i<=n
 h:scanF f n=scanI f (n-i) i
structure WC (i:Nat) (f:FF) where
 k:Nat
 hk:k<=i
 h:scanJ f i i=scanJ f i k
theorem TP (n:Nat) (f:FF) (hn1:1<=n) (hn:n<=8) (hp: ∀k,k<n->0<dk f (k+1)) (hf: ∀i j,i<n->j<n->Sz (f i j) 1024):
  CallC Tryz.prog 42 [dV (bi n n f)] ⟨[],Uh n f (scanF f n)⟩:=by
 have hL:=lE n f hn1 (by omega) hf;have hI:=uD n hn1 (by omega);have hml:=aW n n f;refine aS Tryz.func42 rfl Tryz.ntmps42 (aT (k:=fw [⟨1,_,_,_,hL⟩] @Tb.eq_1 (k:=fw [⟨2,_,_,_,hI⟩] hml (k:=aF (il hml (k:=?_))))));refine aO (G:=WB n f) (fun g=>⟨(dV (bi n n f)::jk::jk::jk::xq (vS n f)::jk::.one (.sl 18 0 0 n)::j4 (j4 (j4 (jk::jk::jk::rN n::rN g.i::j16 (j16 (j16 (j4 (j4 (jk::jk::jk::[]))))))))),Hm [(18,gp 18 n n idF)]⟩) (fun g=>n-g.i) ⟨0,by omega,rfl⟩ ?_ ?_
 ·refine aE ⟨?_,trivial⟩ ?_
  ·exact fE 0 18 n n _
  simp[wk]
 rintro⟨i,hi,hsc⟩;simp only;by_cases hm:i<n
 ·have hsc2:scanI f (n-i) i=match scanJ f i i with
   |some j=>some (.add i j)
   |none=>if 0<i/\ ¬LovF f i then some (.swp (i-1))else scanI f (n-(i+1)) (i+1):=by
   rw[show n-i=n-(i+1)+1 by omega];rfl
  refine aK (k:=bv rfl (aF (aG (bC (k:=aF (aK (k:=?_)))))));refine aO (G:=WC i f) (fun g=>⟨(dV (bi n n f)::jk::jk::jk::xq (vS n f)::jk::.one (.sl 18 0 0 n)::jk::rN i::.raw (.int .i64 ((g.k:Int)-1))::j4 (j4 (j4 (.raw (.int .i64 (n:Int))::rN i::j16 (j16 (j16 (j4 (j4 (jk::jk::jk::[]))))))))),Hm [(18,gp 18 n n idF)]⟩) (fun g=>g.k) ⟨i,by omega,rfl⟩ ?_ ?_
  ·refine aE ⟨rfl,trivial⟩ ?_;simp[wk]
  rintro⟨k,hk,hsj⟩;simp only;cases k with
  |zero=>
   refine aF (aK (k:=aJ rfl (bz ?_)));show bL _ _ _ _;have hsj0:scanJ f i i=none:=hsj;rw[hsj0]at hsc2;by_cases h0:0<i
   ·have c1:=A1 n f i (by omega) hm h0 hf;by_cases hs:LovF f i
    ·rw[decide_eq_true (show 3*(dd f i*dd f i)<=4*(dd f (i-1)*dd f (i+1)+lam f i (i-1)*lam f i (i-1))from hs)]at c1;have hnx:scanF f n=scanI f (n-(i+1)) (i+1):=by rw[hsc,hsc2];exact if_neg (by simp[hs])
     refine bN [⟨6,_,_,_,c1⟩] (k:=aJ rfl (aH (bW (k:=?_))));refine⟨⟨i+1,by omega,hnx⟩,by simp only;omega,aE ⟨rfl,trivial⟩ ?_⟩;simp[wk]
    rw[decide_eq_false (show ¬3*(dd f i*dd f i)<=4*(dd f (i-1)*dd f (i+1)+lam f i (i-1)*lam f i (i-1))from hs)]at c1;have hnx:scanF f n=some (.swp (i-1)):=by rw[hsc,hsc2];exact if_pos ⟨h0,hs⟩
    rw[hnx];have x0:((i:Int)-1).toNat=i-1:=by omega
    have g1:=bJ (n:=n) (i:=i) 18 n hm;have g2:=bJ (n:=n) (i:=i-1) 18 n (by omega);have g4:((gL 18 (ae n n)).set i [.sl 18 (i-1+1) 0 n])[i-1]?=some [.sl 18 (i-1+1) 0 n]:=by
     rw[List.getElem?_set_ne (by omega),g2]
    refine bN [⟨6,_,_,_,c1⟩] (k:=aR rfl (iN (aP x0 (aP g2 (aP g1 g4))) (k:=?_)));refine bL.weak ((qn 18 (i+1) (i-1+1) (gp 18 n n (swp i (i-1) idF)) (z8 idF hm (by omega) (by omega))).trans (aE (tm:=(j4 (jk::jk::.one (.sl 18 0 0 n)::j16 (j16 (j16 (j16 (j4 (j4 (j4 ([])))))))))) (l:=[(18,gp 18 n n (swp i (i-1) idF))]) ⟨rfl,trivial⟩ (by simp[wk,Fg,kw,pn,sw]))) ?_;rw[show swp i (i-1) idF=Kg (i-1) by rw[<- QM,show i-1+1=i by omega]];refine bL.weak ((bT 18 (iv rfl)).trans (aE (tm:=(j4 (jk::jk::dV (bi n n (Kg (i-1)))::j16 (j16 (j16 (j16 (j4 (j4 (j4 ([])))))))))) (l:=[]) trivial (by simp[wk];exact(LA (H:=Hm [(18,gp 18 n n (Kg (i-1)))]) (d:=18) (n:=n) (c:=n) (f:=Kg (i-1)) rfl).symm))) ?_;refine bC (k:=aV (aP @Tryz.results42 (aP (aP @Uh.eq_1 @Uh.eq_2) (aP @Rw.eq_1 @Rw.eq_2))))
   have hi0:i=0:=by omega
   subst hi0;have hnx:scanF f n=scanI f (n-(0+1)) (0+1):=by rw[hsc,hsc2];exact if_neg (by simp)
   refine aK (k:=aJ rfl (aH (bW (k:=?_))));refine⟨⟨1,by omega,hnx⟩,by simp only;omega,aE ⟨rfl,trivial⟩ ?_⟩;simp[wk]
  |succ j=>
   have x1:((j+1:Nat):Int)-1=(j:Int):=by omega
   rw[x1];have c1:=FM n f i j (by omega) hm (by omega) hf;by_cases hs:SizF f i j
   ·rw[decide_eq_true (show 2*((lam f i j).natAbs:Int)<=dd f (j+1)from hs)]at c1;have hnx:scanJ f i i=scanJ f i j:=by rw[hsj];exact if_pos hs
    refine aF (aK (k:=aR rfl (aH (aF (aG (cb [⟨4,_,_,_,c1⟩] (k:=aJ rfl (aH (bW (k:=?_))))))))));refine⟨⟨j,by omega,hnx⟩,by simp only;omega,aE ⟨rfl,trivial⟩ ?_⟩;simp[wk]
   rw[decide_eq_false (show ¬2*((lam f i j).natAbs:Int)<=dd f (j+1)from hs)]at c1;have hnx:scanJ f i i=some j:=by rw[hsj];exact if_neg hs
   have hnx2:scanF f n=some (.add i j):=by rw[hsc,hsc2,hnx]
   rw[hnx2,show Uh n f (some (.add i j))= .tup [(false,[.p (.sl (ls (fR fZ) (bi n n (upd idF j i (cF f i j)))))]),(false,[.p (.raw (.bool true))])]from rfl];have hdp:0<dd f (j+1):=by rw[kN hp (by omega)];exact hp j (by omega)
   have sl:=EA (n:=n) (i:=i) (j:=j) (by omega) hm (by omega) hf;have sd:=BC (n:=n) (k:=j+1) (by omega) (by omega) hf;have d1:=uF n f i j (by omega) hm (by omega) hf;have d2:=qU n f (j+1) (by omega) (by omega);rw[show((j+1:Nat):Int)=(j:Int)+1 by omega]at d2;have d3:=uJ (lam f i j) (dd f (j+1)) hdp (sl.mono (by omega)) (sd.mono (by omega));have hnd:=pU (n:=lam f i j) hdp;have d4:=HW (nN (lam f i j) (dd f (j+1))) (nD (lam f i j) (dd f (j+1))) hnd ((yh sl).mono (by omega)) ((yg sd).mono (by omega));rw[VS hdp]at d4;have sq:Sz (qF (lam f i j) (dd f (j+1))) 67174401:=by
    have h1:=ES (l:=lam f i j) hdp;have h2:Sz ((lam f i j).natAbs+1:Int) (67174400+1):=Sz.add (sl.le (by omega)) (mJ (by omega));exact h2.le (by omega)
   have d5:=GQ (qF (lam f i j) (dd f (j+1))) (sq.mono (by omega));rw[show -(qF (lam f i j) (dd f (j+1)))=cF f i j from rfl]at d5;have g1:=bJ (n:=n) (i:=j) 18 n (by omega);have g2:=dU n idF (show j<n by omega);have g3:=aQ (idF j) hm;generalize cF f i j=cc at*
   generalize qF (lam f i j) (dd f (j+1))=qq at*
   generalize nN (lam f i j) (dd f (j+1))=n1 at*
   generalize nD (lam f i j) (dd f (j+1))=n2 at*
   refine aF (aK (k:=aR rfl (aH (aF (aG (cb [⟨4,_,_,_,c1⟩] (k:=aR rfl (d6 [⟨8,_,_,_,d1⟩,⟨12,_,_,_,d2⟩,⟨13,_,_,_,d3⟩,⟨14,_,_,_,d4⟩,⟨15,_,_,_,d5⟩] (aP g1 (aP g2 (aP g3 @iB))) (k:=?_)))))))));refine bL.weak ((aE (tm:=(j4 (jk::jk::.one (.sl 18 0 0 n)::j16 (j16 (j16 (j16 (j4 (j4 (j4 ([])))))))))) (l:=[(18,gp 18 n n (upd idF j i cc))]) ⟨rfl,trivial⟩ (by simp[wk])).trans ((bT 18 (iv rfl)).trans (aE (tm:=(j4 (jk::jk::dV (bi n n (upd idF j i cc))::j16 (j16 (j16 (j16 (j4 (j4 (j4 ([])))))))))) (l:=[]) trivial (by
    simp[wk];exact(LA (H:=Hm [(18,gp 18 n n (upd idF j i cc))]) (d:=18) (n:=n) (c:=n) (f:=upd idF j i cc) rfl).symm)))) ?_
   refine bC (k:=aV @Tryz.results42)
 have hin:i=n:=by omega
 subst hin;have hnx:scanF f i=none:=by rw[hsc,Nat.sub_self];rfl
 rw[hnx];refine aK (k:=bE rfl (bC (k:=aV (aP @Tryz.results42 (aP @Uh.eq_1 @Uh.eq_2)))))
def VV (L:List Int) (i k:Nat) (s:(Nat->Nat->Int)×Nat):(Nat->Nat->Int)×Nat:=(upd (upd s.1 i k (Int.tmod (L.getD s.2 0) 3)) k i (Int.tmod (L.getD s.2 0) 3),gZ L s.2)
def Ov (L:List Int) (i:Nat) (s:(Nat->Nat->Int)×Nat):Nat->(Nat->Nat->Int)×Nat
 |0=>s
 |k+1=>VV L i k (Ov L i s k)
def qi (L:List Int) (s:(Nat->Nat->Int)×Nat):Nat->(Nat->Nat->Int)×Nat
 |0=>s
 |i+1=>Ov L i (qi L s i) i
theorem Ez {L:List Int} {i:Nat} {s:(Nat->Nat->Int)×Nat} (h:s.2<=L.length): ∀k,(Ov L i s k).2<=L.length
 |0=>h
 |k+1=>oU (Ez h k)
theorem Ey {L:List Int} {s:(Nat->Nat->Int)×Nat} (h:s.2<=L.length): ∀i,(qi L s i).2<=L.length
 |0=>h
 |i+1=>Ez (Ey h i) i
theorem AM (f:FF) (i j:Nat) (v:Int):upd f i j v i j=v:=by simp[upd]
theorem IL (b:Nat) (L:List Int) (a n:Nat) (hL:I8 L) (ha:a<=L.length) (hn:n<=8):
  CallT Tryz.prog b 84 46 [dI b,.raw (.int .i64 (n:Int))] (JS L a) ⟨dv 0 n n (qi L (gW L a 6,lD L a n) n).1,.one (.sl 0 0 0 n)⟩ (JS L (qi L (gW L a 6,lD L a n) n).2):=by
 have c0:=mo b L a n 6 hL ha hn (by omega) (by omega);rw[show((6:Nat):Int)=6 from rfl]at c0;have hp0:(gW L a 6,lD L a n).2<=L.length:=rW ha n;refine nt Tryz.func46 rfl (by kernel_rfl) ?_;rw[Tryz.ntmps46];refine DS @dI.eq_1 (k:=?_);refine rS 2 c0 [] [] (by kernel_rfl) (by rfl) (by rfl) fun _ K=>?_;simp only[kd,dI,aa];apply K
 refine db (d7 (k:=?_));refine ni (G:=iJ n) (fun g=>⟨(dI b::j4 (.one (.sl 10 0 0 n)::j4 (jk::jk::rN n::rN g.i::j16 (j4 (j4 (j4 (jk::jk::jk::[]))))))),Hm [(10,dv 10 n n (qi L (gW L a 6,lD L a n) g.i).1)]⟩) (fun g=>JS L (qi L (gW L a 6,lD L a n) g.i).2) (fun g=>n-g.i) ⟨0,by omega⟩ ?_ rfl ?_
 ·refine aE ⟨?_,trivial⟩ ?_
  ·exact cQ 0 10 n n _
  simp[wk]
 rintro⟨i,hi⟩;simp only;have hpi:=Ey hp0 i;by_cases hm:i<n
 ·refine mP @dI.eq_1 (k:=yT rfl (db (dT (d7 (k:=d7 (k:=?_))))));refine ni (G:=iJ i) (fun g=>⟨(dI b::j4 (.one (.sl 10 0 0 n)::rN i::rN g.i::j4 (.raw (.int .i64 (n:Int))::rN i::j16 (j4 (j4 (j4 (jk::jk::jk::[]))))))),Hm [(10,dv 10 n n (Ov L i (qi L (gW L a 6,lD L a n) i) g.i).1)]⟩) (fun g=>JS L (Ov L i (qi L (gW L a 6,lD L a n) i) g.i).2) (fun g=>i-g.i) ⟨0,by omega⟩ ?_ rfl ?_
  ·refine aE ⟨rfl,trivial⟩ ?_;simp[wk]
  rintro⟨k,hk⟩;simp only;have hpk:=Ez (i:=i) hpi k;by_cases hm2:k<i
  ·have hst:Ov L i (qi L (gW L a 6,lD L a n) i) (k+1)=VV L i k (Ov L i (qi L (gW L a 6,lD L a n) i) k):=rfl;generalize Ov L i (qi L (gW L a 6,lD L a n) i) k=s at*
   obtain⟨f,p⟩:=s;simp only at hpk⊢;have c1:=Ko b L p hL hpk;have hb:=hL.getD p;have a1:=bJ (n:=n) (i:=i) 10 n hm;have a2:=bJ (n:=n) (i:=k) 10 n (by omega);have a3:=cT n f hm;have a5:=aQ (f i) (show k<n by omega);have hst2:VV L i k (f,p)=(upd (upd f i k (Int.tmod (L.getD p 0) 3)) k i (Int.tmod (L.getD p 0) 3),gZ L p):=rfl;obtain⟨v,hv⟩: ∃v,Int.tmod (L.getD p 0) 3=v:=⟨_,rfl⟩;rw[hv]at hst2;have a6:=cT n (upd f i k v) hm;have a7:=cT n (upd f i k v) (show k<n by omega);have a8:(bj n (upd f i k v i))[k]?=some v:=by rw[aQ _ (by omega),AM]
   have a9:=aQ (upd f i k v k) hm;refine db (mP @dI.eq_1 (k:=ip rfl (i7 (db (dT ?_)))));refine DR d8 6 c1 [] [] (by kernel_rfl) (by kernel_rfl) (by rfl) (by rfl) fun _ K=>?_;simp(disch:=omega) only[kd,dI,aa,a1,hv,a3,a5,fO];apply K
   refine Sm (aP a2 (aP a1 (aP a6 (aP a8 (aP a7 (aP a9 @fO)))))) (k:=xb (k:=?_));refine⟨⟨k+1,by omega⟩,by simp only;omega,aE ⟨?_,trivial⟩ ?_,?_⟩
   ·rw[hst,hst2];rfl
   ·simp[wk]
   simp only;rw[hst,hst2]
  have hki:k=i:=by omega
  subst hki;refine db (mP @dI.eq_1 (k:=de rfl (Bj (xb (k:=?_)))));refine⟨⟨k+1,by omega⟩,by simp only;omega,aE ⟨rfl,trivial⟩ ?_,rfl⟩;simp[wk]
 have hin:i=n:=by omega
 subst hin;refine mP @dI.eq_1 (k:=yS rfl (d7 (k:=?_)));refine oy ⟨.inr rfl,rfl,_,ci.refl _,?_⟩;refine⟨.one (.sl 10 0 0 i),10,?_,rfl,?_,rfl⟩
 ·simp(disch:=omega) only[kd,Tryz.results46]
 exact(cQ 10 0 _ _ _).symm
def O1 (fork:Bool) (n i:Nat):Nat:=if fork=true/\i+1=n/\3<n then i-2 else i-1
def jP (fork:Bool) (n:Nat):Nat->Nat->Nat->Int
 |0=>fun _ _=>0
 |i+1=>if i=0 then upd (jP fork n i) i i 2 else upd (upd (upd (jP fork n i) i i 2) i (O1 fork n i) (-1)) (O1 fork n i) i (-1)
theorem K0 {fork:Bool} {n i:Nat} (h:0<i):O1 fork n i<i:=by unfold O1;split<;>omega
theorem qf {f:FF} {i j a b:Nat} {v:Int} (h:a≠i\/b≠j):upd f i j v a b=f a b:=by
 unfold upd;by_cases h1:a=i
 ·subst h1;have h2:b≠j:=by rcases h with h|h;exact absurd rfl h;exact h
  simp[h2]
 simp[h1]
theorem Bw (fork:Bool) (n:Nat): ∀i a b,i<=a\/i<=b->jP fork n i a b=0
 |0,_,_,_=>rfl
 |i+1,a,b,h=>by
  have ih:=Bw fork n i a b (by omega);unfold jP;split
  ·rw[qf (by omega),ih]
  rename_i h0;have:=K0 (fork:=fork) (n:=n) (show 0<i by omega);rw[qf (by omega),qf (by omega),qf (by omega),ih]
theorem F0 (n:Nat) (fork:Bool) (hn:n<=8):
  CallC Tryz.prog 47 [.raw (.int .i64 (n:Int)),.raw (.bool fork)] ⟨dv 0 n n (jP fork n n),.one (.sl 0 0 0 n)⟩:=by
 refine aS Tryz.func47 rfl Tryz.ntmps47 (aT (k:=aK (k:=aF (bC (k:=?_)))));refine aO (G:=iJ n) (fun g=>⟨(.raw (.int .i64 (n:Int))::.raw (.bool fork)::jk::jk::jk::.one (.sl 9 0 0 n)::j4 (jk::rN n::rN g.i::j16 (j16 (j4 (j4 (j4 ([]))))))),Hm [(9,kI 9 n n g.i (jP fork n g.i))]⟩) (fun g=>n-g.i) ⟨0,by omega⟩ ?_ ?_
 ·refine aE ⟨?_,trivial⟩ ?_
  ·show[_]=_;simp[gL,bi]
  simp[wk]
 rintro⟨i,hi⟩;simp only;by_cases hm:i<n
 ·have k1:=sk (i:=i) (n:=n) 9 n hm;have k2:=ki (i:=i) (n:=n) 9 n hi;have k3:=aW i n (jP fork n i);have k4:=oJ (i:=i) (n:=n) (c:=n) 9 (jP fork n i) hm (fun j hj=>Bw fork n i i j (by omega));have k5:=sj (i:=i+1) (k:=i) (n:=n) 9 n (by omega);have k6:=ki (i:=i+1) (n:=n) 9 n (by omega);have k7:=cT (n:=i+1) n (jP fork n i) (i:=i) (by omega);have k8:=aQ (jP fork n i i) hm;have hstep:jP fork n (i+1)=if i=0 then upd (jP fork n i) i i 2 else upd (upd (upd (jP fork n i) i i 2) i (O1 fork n i) (-1)) (O1 fork n i) i (-1):=rfl
  generalize jP fork n i=f at*
  refine aK (k:=bv rfl (aF (aG (bC (k:=aX (aP k1 (aP @List.length_replicate.{0} (aP @List.all_replicate.{0} k3))) (k:=?_))))));refine bL.weak (aE (tm:=(.raw (.int .i64 (n:Int))::.raw (.bool fork)::jk::jk::jk::.one (.sl 9 0 0 n)::rN i::j4 (.raw (.int .i64 (n:Int))::rN i::j16 (j16 (j4 (j4 (j4 ([])))))))) (l:=[(9,kI 9 n n (i+1) f)]) ⟨?_,trivial⟩ (by simp[wk])) ?_
  ·first|exact k4|rfl
  refine aX (aP k5 (aP k7 (aP k8 @fO))) (k:=aK (k:=?_));obtain⟨kz,hkz⟩: ∃kz:Int,kz=if fork=true/\i+1=n/\3<n then(i:Int)-2 else(i:Int)-1:=⟨_,rfl⟩
  refine aF (l7 (S:=⟨(.raw (.int .i64 (n:Int))::.raw (.bool fork)::jk::jk::jk::.one (.sl 9 0 0 n)::rN i::.raw (.int .i64 kz)::jk::jk::jk::rN n::rN i::j16 (j16 (j4 (j4 (j4 ([])))))),Hm [(9,kI 9 n n (i+1) (upd f i i 2))]⟩) ?_ ?_)
  ·cases fork with
   |false=>
    rw[if_neg (by simp)]at hkz;refine aK (k:=aJ rfl (aH ?_));show ci _ _;refine aE ⟨rfl,trivial⟩ ?_;simp[wk,hkz]
   |true=>
    by_cases h1:i+1=n
    ·by_cases h2:3<n
     ·rw[if_pos ⟨rfl,h1,h2⟩]at hkz;refine aK (k:=aR rfl (bW (k:=?_)));refine aE ⟨rfl,trivial⟩ ?_;simp[wk,hkz]
     rw[if_neg (by omega)]at hkz;refine aK (k:=aJ rfl (aH ?_));show ci _ _;refine aE ⟨rfl,trivial⟩ ?_;simp[wk,hkz]
    rw[if_neg (by omega)]at hkz;refine aK (k:=aJ rfl (aH ?_));show ci _ _;refine aE ⟨rfl,trivial⟩ ?_;simp[wk,hkz]
  by_cases h0:i=0
  ·subst h0;rw[if_neg (by omega)]at hkz;rw[if_pos rfl]at hstep;refine aK (k:=aJ rfl (aH (bW (k:=?_))));refine⟨⟨1,by omega⟩,by simp only;omega,aE ⟨?_,trivial⟩ ?_⟩
   ·simp only[hstep];rfl
   simp[wk]
  have hkk:kz=((O1 fork n i:Nat):Int):=by
   rw[hkz];unfold O1;split<;>omega
  have hlt:=K0 (fork:=fork) (n:=n) (show 0<i by omega);rw[if_neg h0]at hstep;subst hkk;generalize O1 fork n i=k at*
  generalize upd f i i 2=f2 at*
  have b1:=sj (i:=i+1) (k:=k) (n:=n) 9 n (by omega);have b2:=cT (n:=i+1) n f2 (i:=i) (by omega);have b3:=aQ (f2 i) (show k<n by omega);have b4:=cT (n:=i+1) n (upd f2 i k (-1)) (i:=k) (by omega);have b5:=aQ (upd f2 i k (-1) k) hm;refine aK (k:=aR rfl (nk (aP k5 (aP b1 (aP b2 (aP b3 (aP @fO (aP b4 b5)))))) (k:=bW (k:=?_))));refine⟨⟨i+1,by omega⟩,by simp only;omega,aE ⟨?_,trivial⟩ ?_⟩
  ·simp only[hstep];rfl
  simp[wk]
 have hin:i=n:=by omega
 subst hin;refine aK (k:=bE rfl ?_);show bL _ _ _ _;rw[pO];refine bC (k:=?_);refine bA ⟨.inr rfl,_,ci.refl _,?_⟩;refine⟨.one (.sl 9 0 0 i),9,?_,rfl,?_,rfl⟩
 ·simp(disch:=omega) only[kd,Tryz.results47]
 exact(cQ 9 0 _ _ _).symm
def GoodP (n:Nat) (f:FF):Prop:=SymF f n/\A2 f n/\detF n f<=10000
theorem LH (n:Nat) (f:FF) (hn1:1<=n) (hn:n<=8) (hf: ∀i j:Nat,rI (f i j)) (r:Bool) (hr:r=true↔GoodP n f):CallC Tryz.prog 50 [dj (bi n n f)] ⟨[],.raw (.bool r)⟩:=by
 have c1:=Se n n f hn1 (by omega) hn1 (by omega) (fun i j _ _=>hf i j);obtain⟨e,he,c2⟩:=pz n n f hn1 (by omega) hn1 (by omega) (fun i j _ _=>(hf i j).sz (by omega));by_cases h1:e=0
 ·obtain⟨_,_,hs,hp⟩:=he.1 h1;subst h1;have c3:=gM n f hn1 (by omega) (fun i j _ _=>(hf i j).sz (by omega));have c4:=eA 10000 (by omega) (by omega);have c5:=xu (detF n f) 10000 ((oG (n:=n) (by omega) (fun i j _ _=>(hf i j).sz (by omega))).mono (by omega)) (k9 (by decide) (by omega));have hle:=zl (detF n f) 10000;have hrr:r=decide (detF n f<=10000):=by
   cases r with
   |true=>have:=(hr.1 rfl).2.2;simp[this]
   |false=>
    have: ¬detF n f<=10000:=fun h=>by have:=hr.2 ⟨hs,hp,h⟩;cases this
    simp[this]
  rw[hrr];generalize detF n f=d at*
  refine aS Tryz.func50 rfl Tryz.ntmps50 (aT (k:=cb [⟨1,_,_,_,c1⟩] (k:=dr [⟨1,_,_,_,c2⟩,⟨5,_,_,_,c3⟩,⟨6,_,_,_,c4⟩,⟨7,_,_,_,c5⟩] hle (k:=aV @Tryz.results50))))
 have hr0:r=false:=by
  cases r with
  |false=>rfl
  |true=>have:=hr.1 rfl;exact absurd (he.2 ⟨rfl,hn,this.1,this.2.1⟩) h1
 subst hr0;refine aS Tryz.func50 rfl Tryz.ntmps50 (aT (k:=cb [⟨1,_,_,_,c1⟩] (k:=bN [⟨1,_,_,_,c2⟩] (k:=aV @Tryz.results50))))
theorem OO {P:Program} {b:Nat} {ty:TypeId} {c z:Code} {Q:Exit->AS->List PV->Prop} {s S:AS} {cs cs1:List PV} (h1:fb P b ty c (mT (fun s' k=>ci s' S/\k=cs1) Q) s cs) (h2:fb P b ty z Q S cs1):fb P b ty c (mT (fb P b ty z Q) Q) s cs:=h1.mono fun e s' k h=>by
 cases e with
 |normal=>
  obtain⟨g1,rfl⟩:=h;exact fb.weak g1 h2
 |_=>exact h
def lV (kind:Nat) (L:List Int) (n:Nat):(Nat->Nat->Int)×Nat:=
 if kind%8<4 then qi L (gW L 0 6,lD L 0 n) n
 else if kind%8=4 then(upd (jP false n n) 0 0 (jP false n n 0 0+(mW L 0 3:Int)),gZ L 0)
 else if kind%8=5 then(upd (jP true n n) (n-1) (n-1) (jP true n n (n-1) (n-1)+(mW L 0 2:Int)),gZ L 0)
 else if kind%8=6 then(gW L 0 9,lD L 0 n)
 else(gW L 0 1,lD L 0 n)
open Classical in
noncomputable def mQ (kind:Nat) (L:List Int) (n:Nat):Nat->Nat->Int:=if GoodP n (lV kind L n).1 then(lV kind L n).1 else gW L (lV kind L n).2 2
theorem s7 (f:FF) (i j:Nat) (v:Int) (a b:Nat):upd f i j v a b=v\/upd f i j v a b=f a b:=by
 by_cases h:a=i/\b=j
 ·obtain⟨rfl,rfl⟩:=h;exact .inl (AM f a b v)
 exact .inr (qf (by omega))
def Dw (f:FF):Prop:= ∀a b,-9<=f a b/\f a b<=9
theorem Dw.i64 {f:FF} (h:Dw f) (a b:Nat):rI (f a b):=by have:=h a b;exact⟨by omega,by omega⟩
theorem Dw.upd {f:FF} (h:Dw f) {i j:Nat} {v:Int} (h1: -9<=v) (h2:v<=9):Dw (Go.Proofs.YtiollbhgpiiodaaGreatDoor.upd f i j v):=fun a b=>by
 rcases s7 f i j v a b with e|e
 ·rw[e];exact⟨h1,h2⟩
 rw[e];exact h a b
theorem zu {L:List Int} {a most:Nat} (h1:0<most) (h2:most<=9):Dw (gW L a most):=fun i j=>by
 unfold gW;split
 ·have:=mf (n:=most) L (lD L a i) h1;omega
 omega
theorem U6 (x:Int): -2<=Int.tmod x 3/\Int.tmod x 3<=2:=by
 have h1:=Int.tmod_lt_of_pos x (show(0:Int)<3 by omega);have h2:=Int.lt_tmod_of_pos x (show(0:Int)<3 by omega);omega
theorem LP {L:List Int} {i:Nat} {s:(Nat->Nat->Int)×Nat} (h:Dw s.1): ∀k,Dw (Ov L i s k).1
 |0=>h
 |k+1=>by
  have:=U6 (L.getD (Ov L i s k).2 0);exact((LP h k).upd (by omega) (by omega)).upd (by omega) (by omega)
theorem LO {L:List Int} {s:(Nat->Nat->Int)×Nat} (h:Dw s.1): ∀i,Dw (qi L s i).1
 |0=>h
 |i+1=>LP (LO h i) i
theorem pJ (fork:Bool) (n:Nat): ∀i a b,-1<=jP fork n i a b/\jP fork n i a b<=2
 |0,_,_=>by simp[jP]
 |i+1,a,b=>by
  have ih:=pJ fork n i;have u: ∀(f:FF) (i j:Nat) (v:Int),(∀a b,-1<=f a b/\f a b<=2)-> -1<=v/\v<=2-> ∀a b,-1<=upd f i j v a b/\upd f i j v a b<=2:=fun f i j v hf hv a b=>by
   rcases s7 f i j v a b with e|e
   ·rw[e];exact hv
   rw[e];exact hf a b
  unfold jP;split
  ·exact u _ _ _ _ ih (by omega) a b
  exact u _ _ _ _ (u _ _ _ _ (u _ _ _ _ ih (by omega)) (by omega)) (by omega) a b
theorem G5 (kind:Nat) (L:List Int) (n:Nat):Dw (lV kind L n).1:=by
 have b3:=mf (n:=3) L 0 (by omega);have b2:=mf (n:=2) L 0 (by omega);have c1:=pJ false n n 0 0;have c2:=pJ true n n (n-1) (n-1);unfold lV;split
 ·exact LO (zu (by omega) (by omega)) n
 split
 ·exact Dw.upd (fun a b=>by have:=pJ false n n a b;omega) (by omega) (by omega)
 split
 ·exact Dw.upd (fun a b=>by have:=pJ true n n a b;omega) (by omega) (by omega)
 split
 ·exact zu (by omega) (by omega)
 exact zu (by omega) (by omega)
theorem Qd (kind:Nat) (L:List Int) (n:Nat):(lV kind L n).2<=L.length:=by
 unfold lV;split
 ·exact Ey (rW (by omega) n) n
 split
 ·exact oU (by omega)
 split
 ·exact oU (by omega)
 split
 ·exact rW (by omega) n
 exact rW (by omega) n
abbrev tL (dim kind:Nat) (L B:List Int):TV:= .agg [.p (.raw (.int .u8 (dim:Int))),.p (.raw (.int .u8 (kind:Int))),.p (.sl (ls f8 L)),.p (.sl (ls f8 B))]
theorem R8 (dim kind:Nat) (L B:List Int) (most n:Nat) (hL:I8 L) (hdim:dim<=255) (hkind:kind<=255) (hm1:1<=most) (hm8:most<=8) (hn:n=1+dim%most):
  CallC Tryz.prog 17 [tL dim kind L B,.raw (.int .i64 (most:Int))] ⟨[],dj (bi n n (mQ kind L n))⟩:=by
 have hn1:1<=n:=by omega
 have hn8:n<=8:=by have:=Nat.mod_lt dim (show 0<most by omega);omega
 have e1:Int.tmod (dim:Int) (most:Int)=((dim%most:Nat):Int):=(Int.ofNat_tmod dim most).symm;have e2:Int.tmod (kind:Int) 8=((kind%8:Nat):Int):=(Int.ofNat_tmod kind 8).symm;have e3:1+((dim%most:Nat):Int)=(n:Int):=by omega
 refine aS Tryz.func17 rfl Tryz.ntmps17 (pC @tL.eq_1 (k:=aK (k:=Kt 11 (cs:=JS L 0) rfl fun b=>?_)));refine fb.weak (aE (tm:=(jk::rN most::.one (.ptr 2 0 0 0)::jk::jk::dI b::j16 (j16 (j16 (j16 (j4 ([]))))))) (l:=[(2,[⟨24,4,[[.p (.raw (.int .u8 (dim:Int))),.p (.raw (.int .u8 (kind:Int))),.p (.sl (ls f8 L)),.p (.sl (ls f8 B))]]⟩])]) ⟨rfl,trivial⟩ (by simp[wk,vT,lK])) ?_;refine mP (aP @dI.eq_1 (aP e1 e3)) (k:=d7 (k:=db (mP e2 (k:=?_))));have hraw:=G5 kind L n;have hple:=Qd kind L n;refine OO (S:=⟨(j4 (jk::dI b::rN n::dj (bi n n (lV kind L n).1)::j16 (j16 (j16 (j16 (jk::jk::[])))))),Hm []⟩) (cs1:=JS L (lV kind L n).2) ?_ ?_
 ·have hk8:=Nat.mod_lt kind (show 0<8 by omega);have hG:kind%8<4->lV kind L n=qi L (gW L 0 6,lD L 0 n) n:=fun h=>by unfold lV;rw[if_pos h]
  have cg:=IL b L 0 n hL (by omega) hn8;have cha:=F0 n false hn8;have chb:=F0 n true hn8;have cb3:=yQ b L 0 3 hL (by omega) (by omega) (by omega);have cb2:=yQ b L 0 2 hL (by omega) (by omega) (by omega);have cd9:=mo b L 0 n 9 hL (by omega) hn8 (by omega) (by omega);have cd1:=mo b L 0 n 1 hL (by omega) hn8 (by omega) (by omega);rw[show((3:Nat):Int)=3 from rfl]at cb3;rw[show((2:Nat):Int)=2 from rfl]at cb2;rw[show((9:Nat):Int)=9 from rfl]at cd9;rw[show((1:Nat):Int)=1 from rfl]at cd1;have q3:=mf (n:=3) L 0 (by omega);have q2:=mf (n:=2) L 0 (by omega);have r1:=pJ false n n 0 0;have r2:=pJ true n n (n-1) (n-1);have x0:((n:Int)-1).toNat=n-1:=by omega
  have x1:=bJ (n:=n) (i:=0) 35 n (by omega);have x2:=cT (n:=n) n (jP false n n) (i:=0) (by omega);have x3:=aQ (m:=n) (jP false n n 0) (j:=0) (by omega);have y1:=bJ (n:=n) (i:=n-1) 48 n (by omega);have y2:=cT (n:=n) n (jP true n n) (i:=n-1) (by omega);have y3:=aQ (m:=n) (jP true n n (n-1)) (j:=n-1) (by omega);have hcase:kind%8=0\/kind%8=1\/kind%8=2\/kind%8=3\/kind%8=4\/kind%8=5\/kind%8=6\/kind%8=7:=by omega
  rcases hcase with hkk|hkk|hkk|hkk|hkk|hkk|hkk|hkk
  ·have hk:kind%8=0:=by omega
   rw[hk,show((0:Nat):Int)=0 from rfl];refine dT (db (d7 (k:=ip rfl (i7 (ip rfl ?_)))));refine iM 2 cg [] [] (by kernel_rfl) (by rfl) (by rfl) fun _ K=>?_;simp only[kd,dI,aa,ab];apply K
   rw[hG (by omega)];refine⟨(aE (tm:=(j4 (jk::dI b::rN n::.one (.sl 31 0 0 n)::j16 (j16 (j16 (j16 (jk::jk::[]))))))) (l:=[(31,dv 31 n n ((qi L (gW L 0 6,lD L 0 n) n).1))]) ⟨cQ 0 31 n n _,trivial⟩ (by simp[wk])).trans ((bT 31 (dG rfl)).trans (aE (tm:=(j4 (jk::dI b::rN n::dj (bi n n ((qi L (gW L 0 6,lD L 0 n) n).1))::j16 (j16 (j16 (j16 (jk::jk::[]))))))) (l:=[]) trivial (by
    simp[wk];exact⟨rfl,rfl,(mZ (H:=Hm [(31,dv 31 n n ((qi L (gW L 0 6,lD L 0 n) n).1))]) (d:=31) (n:=n) (c:=n) (f:=(qi L (gW L 0 6,lD L 0 n) n).1) rfl).symm⟩))),rfl⟩
  ·have hk:kind%8=1:=by omega
   rw[hk,show((1:Nat):Int)=1 from rfl];refine dT (db (d7 (k:=de rfl (d7 (k:=ip rfl (i7 (ip rfl ?_)))))));refine iM 2 cg [] [] (by kernel_rfl) (by rfl) (by rfl) fun _ K=>?_;simp only[kd,dI,aa,ab];apply K
   rw[hG (by omega)];refine⟨(aE (tm:=(j4 (jk::dI b::rN n::.one (.sl 31 0 0 n)::j16 (j16 (j16 (j16 (jk::jk::[]))))))) (l:=[(31,dv 31 n n ((qi L (gW L 0 6,lD L 0 n) n).1))]) ⟨cQ 0 31 n n _,trivial⟩ (by simp[wk])).trans ((bT 31 (dG rfl)).trans (aE (tm:=(j4 (jk::dI b::rN n::dj (bi n n ((qi L (gW L 0 6,lD L 0 n) n).1))::j16 (j16 (j16 (j16 (jk::jk::[]))))))) (l:=[]) trivial (by
    simp[wk];exact⟨rfl,rfl,(mZ (H:=Hm [(31,dv 31 n n ((qi L (gW L 0 6,lD L 0 n) n).1))]) (d:=31) (n:=n) (c:=n) (f:=(qi L (gW L 0 6,lD L 0 n) n).1) rfl).symm⟩))),rfl⟩
  ·have hk:kind%8=2:=by omega
   rw[hk,show((2:Nat):Int)=2 from rfl];refine dT (db (d7 (k:=de rfl (d7 (k:=de rfl (d7 (k:=ip rfl (i7 (ip rfl ?_)))))))));refine iM 2 cg [] [] (by kernel_rfl) (by rfl) (by rfl) fun _ K=>?_;simp only[kd,dI,aa,ab];apply K
   rw[hG (by omega)];refine⟨(aE (tm:=(j4 (jk::dI b::rN n::.one (.sl 31 0 0 n)::j16 (j16 (j16 (j16 (jk::jk::[]))))))) (l:=[(31,dv 31 n n ((qi L (gW L 0 6,lD L 0 n) n).1))]) ⟨cQ 0 31 n n _,trivial⟩ (by simp[wk])).trans ((bT 31 (dG rfl)).trans (aE (tm:=(j4 (jk::dI b::rN n::dj (bi n n ((qi L (gW L 0 6,lD L 0 n) n).1))::j16 (j16 (j16 (j16 (jk::jk::[]))))))) (l:=[]) trivial (by
    simp[wk];exact⟨rfl,rfl,(mZ (H:=Hm [(31,dv 31 n n ((qi L (gW L 0 6,lD L 0 n) n).1))]) (d:=31) (n:=n) (c:=n) (f:=(qi L (gW L 0 6,lD L 0 n) n).1) rfl).symm⟩))),rfl⟩
  ·have hk:kind%8=3:=by omega
   rw[hk,show((3:Nat):Int)=3 from rfl];refine dT (db (d7 (k:=de rfl (d7 (k:=de rfl (d7 (k:=de rfl (xb (k:=ip rfl ?_)))))))));refine iM 2 cg [] [] (by kernel_rfl) (by rfl) (by rfl) fun _ K=>?_;simp only[kd,dI,aa,ab];apply K
   rw[hG (by omega)];refine⟨(aE (tm:=(j4 (jk::dI b::rN n::.one (.sl 31 0 0 n)::j16 (j16 (j16 (j16 (jk::jk::[]))))))) (l:=[(31,dv 31 n n ((qi L (gW L 0 6,lD L 0 n) n).1))]) ⟨cQ 0 31 n n _,trivial⟩ (by simp[wk])).trans ((bT 31 (dG rfl)).trans (aE (tm:=(j4 (jk::dI b::rN n::dj (bi n n ((qi L (gW L 0 6,lD L 0 n) n).1))::j16 (j16 (j16 (j16 (jk::jk::[]))))))) (l:=[]) trivial (by
    simp[wk];exact⟨rfl,rfl,(mZ (H:=Hm [(31,dv 31 n n ((qi L (gW L 0 6,lD L 0 n) n).1))]) (d:=31) (n:=n) (c:=n) (f:=(qi L (gW L 0 6,lD L 0 n) n).1) rfl).symm⟩))),rfl⟩
  ·have hk:kind%8=4:=by omega
   rw[hk,show((4:Nat):Int)=4 from rfl];refine dT (db (d7 (k:=de rfl (d7 (k:=de rfl (d7 (k:=de rfl (xb (k:=de rfl (d7 (k:=ip rfl (Ru [⟨1,_,_,_,cha⟩] (k:=?_)))))))))))));refine fb.weak (aE (tm:=(j4 (jk::dI b::rN n::.one (.sl 35 0 0 n)::j16 (j16 (j16 (j16 (jk::jk::[]))))))) (l:=[(35,dv 35 n n (jP false n n))]) ⟨cQ 0 35 n n _,trivial⟩ (by simp[wk])) ?_;refine ma d8 6 cb3 [] [] (by kernel_rfl) (by kernel_rfl) (by rfl) (by rfl) fun _ K=>?_;simp(disch:=omega) only[kd,dI,aa,Int.reduceToNat,x1,x2,x3,bu,fO];apply K
   rw[show lV kind L n=(upd (jP false n n) 0 0 (jP false n n 0 0+(mW L 0 3:Int)),gZ L 0) by unfold lV;rw[if_neg (by omega),if_pos hk]];refine⟨(aE (tm:=(j4 (jk::dI b::rN n::.one (.sl 35 0 0 n)::j16 (j16 (j16 (j16 (jk::jk::[]))))))) (l:=[(35,dv 35 n n (upd (jP false n n) 0 0 (jP false n n 0 0+(mW L 0 3:Int))))]) ⟨rfl,trivial⟩ (by simp[wk])).trans ((bT 35 (dG rfl)).trans (aE (tm:=(j4 (jk::dI b::rN n::dj (bi n n (upd (jP false n n) 0 0 (jP false n n 0 0+(mW L 0 3:Int))))::j16 (j16 (j16 (j16 (jk::jk::[]))))))) (l:=[]) trivial (by
    simp[wk];exact⟨rfl,rfl,(mZ (H:=Hm [(35,dv 35 n n (upd (jP false n n) 0 0 (jP false n n 0 0+(mW L 0 3:Int))))]) (d:=35) (n:=n) (c:=n) (f:=upd (jP false n n) 0 0 (jP false n n 0 0+(mW L 0 3:Int))) rfl).symm⟩))),rfl⟩
  ·have hk:kind%8=5:=by omega
   rw[hk,show((5:Nat):Int)=5 from rfl];refine dT (db (d7 (k:=de rfl (d7 (k:=de rfl (d7 (k:=de rfl (xb (k:=de rfl (d7 (k:=de rfl (d7 (k:=ip rfl (Ru [⟨1,_,_,_,chb⟩] (k:=?_)))))))))))))));refine fb.weak (aE (tm:=(j4 (jk::dI b::rN n::.one (.sl 48 0 0 n)::j16 (j16 (j16 (j16 (jk::jk::[]))))))) (l:=[(48,dv 48 n n (jP true n n))]) ⟨cQ 0 48 n n _,trivial⟩ (by simp[wk])) ?_;refine ma d8 10 cb2 [] [] (by kernel_rfl) (by kernel_rfl) (by rfl) (by rfl) fun _ K=>?_;simp(disch:=omega) only[kd,dI,aa,bu,x0,y1,y2,y3,fO];apply K
   rw[show lV kind L n=(upd (jP true n n) (n-1) (n-1) (jP true n n (n-1) (n-1)+(mW L 0 2:Int)),gZ L 0) by unfold lV;rw[if_neg (by omega),if_neg (by omega),if_pos hk]];refine⟨(aE (tm:=(j4 (jk::dI b::rN n::.one (.sl 48 0 0 n)::j16 (j16 (j16 (j16 (jk::jk::[]))))))) (l:=[(48,dv 48 n n (upd (jP true n n) (n-1) (n-1) (jP true n n (n-1) (n-1)+(mW L 0 2:Int))))]) ⟨rfl,trivial⟩ (by simp[wk])).trans ((bT 48 (dG rfl)).trans (aE (tm:=(j4 (jk::dI b::rN n::dj (bi n n (upd (jP true n n) (n-1) (n-1) (jP true n n (n-1) (n-1)+(mW L 0 2:Int))))::j16 (j16 (j16 (j16 (jk::jk::[]))))))) (l:=[]) trivial (by
    simp[wk];exact⟨rfl,rfl,(mZ (H:=Hm [(48,dv 48 n n (upd (jP true n n) (n-1) (n-1) (jP true n n (n-1) (n-1)+(mW L 0 2:Int))))]) (d:=48) (n:=n) (c:=n) (f:=upd (jP true n n) (n-1) (n-1) (jP true n n (n-1) (n-1)+(mW L 0 2:Int))) rfl).symm⟩))),rfl⟩
  ·have hk:kind%8=6:=by omega
   rw[hk,show((6:Nat):Int)=6 from rfl];refine dT (db (d7 (k:=de rfl (d7 (k:=de rfl (d7 (k:=de rfl (xb (k:=de rfl (d7 (k:=de rfl (d7 (k:=de rfl (d7 (k:=ip rfl ?_)))))))))))))));refine iM 2 cd9 [] [] (by kernel_rfl) (by rfl) (by rfl) fun _ K=>?_;simp only[kd,dI,aa,ab];apply K
   rw[show lV kind L n=(gW L 0 9,lD L 0 n) by unfold lV;rw[if_neg (by omega),if_neg (by omega),if_neg (by omega),if_pos hk]];refine⟨(aE (tm:=(j4 (jk::dI b::rN n::.one (.sl 66 0 0 n)::j16 (j16 (j16 (j16 (jk::jk::[]))))))) (l:=[(66,dv 66 n n (gW L 0 9))]) ⟨cQ 0 66 n n _,trivial⟩ (by simp[wk])).trans ((bT 66 (dG rfl)).trans (aE (tm:=(j4 (jk::dI b::rN n::dj (bi n n (gW L 0 9))::j16 (j16 (j16 (j16 (jk::jk::[]))))))) (l:=[]) trivial (by
    simp[wk];exact⟨rfl,rfl,(mZ (H:=Hm [(66,dv 66 n n (gW L 0 9))]) (d:=66) (n:=n) (c:=n) (f:=gW L 0 9) rfl).symm⟩))),rfl⟩
  have hk:kind%8=7:=by omega
  rw[hk,show((7:Nat):Int)=7 from rfl];refine dT (db (d7 (k:=de rfl (d7 (k:=de rfl (d7 (k:=de rfl (xb (k:=de rfl (d7 (k:=de rfl (d7 (k:=de rfl (d7 (k:=de rfl ?_)))))))))))))));refine iM 2 cd1 [] [] (by kernel_rfl) (by rfl) (by rfl) fun _ K=>?_;simp only[kd,dI,aa,ab];apply K
  rw[show lV kind L n=(gW L 0 1,lD L 0 n) by unfold lV;rw[if_neg (by omega),if_neg (by omega),if_neg (by omega),if_neg (by omega)]];refine⟨(aE (tm:=(j4 (jk::dI b::rN n::.one (.sl 23 0 0 n)::j16 (j16 (j16 (j16 (jk::jk::[]))))))) (l:=[(23,dv 23 n n (gW L 0 1))]) ⟨cQ 0 23 n n _,trivial⟩ (by simp[wk])).trans ((bT 23 (dG rfl)).trans (aE (tm:=(j4 (jk::dI b::rN n::dj (bi n n (gW L 0 1))::j16 (j16 (j16 (j16 (jk::jk::[]))))))) (l:=[]) trivial (by
   simp[wk];exact⟨rfl,rfl,(mZ (H:=Hm [(23,dv 23 n n (gW L 0 1))]) (d:=23) (n:=n) (c:=n) (f:=gW L 0 1) rfl).symm⟩))),rfl⟩
 generalize hrw:lV kind L n=rg at*
 obtain⟨f,p⟩:=rg;simp only at hraw hple⊢;have e5:mQ kind L n=(open Classical in if GoodP n f then f else gW L p 2):=by unfold mQ;rw[hrw]
 by_cases hg:GoodP n f
 ·rw[if_pos hg]at e5;rw[e5];have c1:=LH n f hn1 hn8 hraw.i64 true (by simp[hg]);refine db (KF [⟨1,_,_,_,c1⟩] @dI.eq_1 (k:=de rfl (i7 (d7 (k:=?_)))));refine oy ⟨.inr rfl,cd rfl ?_ rfl⟩;simp(disch:=omega) only[kd,Tryz.results17,dj]
 rw[if_neg hg]at e5;rw[e5];have c1:=LH n f hn1 hn8 hraw.i64 false (by simp[hg]);have c2:=mo b L p n 2 hL hple hn8 (by omega) (by omega);rw[show((2:Nat):Int)=2 from rfl]at c2;refine db (KF [⟨1,_,_,_,c1⟩] @dI.eq_1 (k:=ip rfl ?_));refine rS 2 c2 [] [] (by kernel_rfl) (by rfl) (by rfl) fun _ K=>?_;simp only[kd,dI,aa];apply K
 refine fb.weak (aE (tm:=(j4 (.one (.sl 72 0 0 n)::j16 (j16 (j16 (j16 (j4 (jk::[])))))))) (l:=[(72,dv 72 n n (gW L p 2))]) ⟨cQ 0 72 n n _,trivial⟩ (by simp[wk])) ?_;refine fb.weak ((bT 72 (dG rfl)).trans (aE (tm:=(j4 (dj (bi n n (gW L p 2))::j16 (j16 (j16 (j16 (j4 (jk::[])))))))) (l:=[]) trivial (by
  simp[wk];exact(mZ (H:=Hm [(72,dv 72 n n (gW L p 2))]) (d:=72) (n:=n) (c:=n) (f:=gW L p 2) rfl).symm))) ?_
 refine oy ⟨.inr rfl,cd rfl ?_ rfl⟩;simp(disch:=omega) only[kd,Tryz.results17,dj]
theorem Ks (n c:Nat) (f:FF) (hn1:1<=n) (hn:n<=16) (hc1:1<=c) (hc:c<=16) (hf: ∀i j:Nat,i<n->j<c->rI (f i j)):
  CallC Tryz.prog 43 [dV (bi n c f)] ⟨dv 0 n c f,vD n true⟩:=by
 have hS:=ot (bi n c f);rw[iE (mu f hn1 hn hc1 hc),aW,ji f hn1]at hS;refine aS Tryz.func43 rfl Tryz.ntmps43 (aT (k:=cb [⟨1,_,_,_,hS⟩] (k:=aF (bC (k:=aJ rfl (aH (aK (k:=aF (bC (k:=?_))))))))));refine aO (G:=iJ n) (fun g=>⟨(dV (bi n c f)::j4 (.raw (.int .i64 (c:Int))::jk::.one (.sl 21 0 0 n)::j4 (j4 (j4 (jk::jk::jk::rN n::rN g.i::j16 (j16 (j4 (jk::jk::[])))))))),Hm [(21,kI 21 n c g.i (part f g.i 0))]⟩) (fun g=>n-g.i) ⟨0,by omega⟩ ?_ ?_
 ·refine aE ⟨?_,trivial⟩ ?_
  ·show[_]=_;simp[gL,bi]
  simp[wk]
 rintro⟨i,hi⟩;simp only;by_cases hm:i<n
 ·have hr:=bx c f hm;have k1:=sk (i:=i) (n:=n) 21 c hm;have k2:=ki (i:=i) (n:=n) 21 c hi;have k3:=aW i c (part f i 0);have k4:=oJ (i:=i) (n:=n) (c:=c) 21 (part f i 0) hm (fun j hj=>by unfold part;rw[if_neg (by omega)]);have k5:=sj (i:=i+1) (k:=i) (n:=n) 21 c (by omega);have k6:=ki (i:=i+1) (n:=n) 21 c (by omega);have k7:=cT (n:=i+1) c (part f i 0) (i:=i) (by omega);refine aK (k:=bv rfl (aF (aG (bC (k:=aX (aP k1 (aP @List.length_replicate.{0} (aP @List.all_replicate.{0} k3))) (k:=?_))))));refine bL.weak (aE (tm:=(dV (bi n c f)::j4 (.raw (.int .i64 (c:Int))::jk::.one (.sl 21 0 0 n)::rN i::j4 (j4 (j4 (jk::jk::rN n::rN i::j16 (j16 (j4 (jk::jk::[]))))))))) (l:=[(21,kI 21 n c (i+1) (part f i 0))]) ⟨?_,trivial⟩ (by simp[wk])) ?_
  ·first|exact k4|rfl
  refine aX k5 (k:=?_);refine aO (G:=iJ c) (fun g=>⟨(dV (bi n c f)::j4 (.raw (.int .i64 (c:Int))::jk::.one (.sl 21 0 0 n)::rN i::j4 (j4 (j4 (jk::jk::rN n::rN i::j4 (j4 (jk::jk::jk::rN c::rN g.i::j16 (j4 (j4 (jk::[])))))))))),Hm [(21,kI 21 n c (i+1) (part f i g.i))]⟩) (fun g=>c-g.i) ⟨0,by omega⟩ ?_ ?_
  ·refine aE ⟨rfl,trivial⟩ ?_;simp[wk]
  rintro⟨j,hj⟩;simp only;by_cases hm3:j<c
  ·have hjr:=aQ (f i) hm3;have hz:=hf i j hm hm3;have cI:=tP (f i j) (hz.sz (by omega));rw[se,if_pos (show -9223372036854775808<=f i j/\f i j<=9223372036854775807 from hz)]at cI;have q7:=cT (n:=i+1) c (part f i j) (i:=i) (by omega);have q8:=aQ (part f i j i) hm3;refine aK (k:=bv rfl (aF (aG (bC (k:=dr [⟨7,_,_,_,cI⟩] (aP hr hjr) (k:=aF (bC (k:=aJ rfl (aH (fc (aP k5 (aP q7 (aP q8 @fO))) (k:=bW (k:=?_))))))))))));refine⟨⟨j+1,by omega⟩,by simp only;omega,aE ⟨?_,trivial⟩ ?_⟩
   ·show _::_=_::_;rw[cy fun a b _ _=>iR f i j a b]
   simp[wk]
  have hjc:j=c:=by omega
  subst hjc;refine aK (k:=bE rfl (bW (k:=?_)));refine⟨⟨i+1,by omega⟩,by simp only;omega,aE ⟨?_,trivial⟩ ?_⟩
  ·show _::_=_::_;rw[cy fun a b _ hb=>ko f i a b hb]
  simp[wk]
 have hin:i=n:=by omega
 subst hin;refine aK (k:=bE rfl ?_);show bL _ _ _ _;have e:kI 21 i c i (part f i 0)=dv 21 i c f:=by
  rw[pO];show _::_=_::_;rw[cy fun a b ha _=>kn f a b ha]
 rw[e];refine bC (k:=?_);refine bA ⟨.inr rfl,MX (d:=21) rfl ?_ (by decide)⟩;simp(disch:=omega) only[kd,Tryz.results43]
structure Vz (N B Z n:Nat) (f0 h T:FF) where
 f:Nat->Nat->Int
 t:Nat->Nat->Int
 s:Nat
 adds:Nat
 inv:RedI N B Z n f0 f t s adds
 rch:Rch n f t h T
theorem Ev (a b:Nat):Sz (idF a b) 1:=by unfold idF;split<;>exact k9 (by decide) (by omega)
theorem Qf {N B S Z n:Nat} {f0 f t h T:FF} (kb:Do N B S Z) (hn1:1<=n) (hn:n<=N) (hd:dk f0 n<=10000) (hr:Rch n f t h T): ∀s adds,RedI N B Z n f0 f t s adds->RedR h n:=by
 induction hr with
 |done f t hc=>exact fun s adds hI=>hI.red hn1 hd hc
 |step f t h T c hc _ ih=>
  intro s adds hI;cases c with
  |add i j=>exact ih _ _ (hI.add kb hn hc).1
  |swp m=>exact ih _ _ (hI.swap kb hn hc)
theorem Ja {N B S Z n:Nat} {f0 f t:FF} {s adds:Nat} (kb:Do N B S Z) (h:RedI N B Z n f0 f t s adds) (hn:n<=N) {c:Ch} (hc:scanF f n=some c): ∀a b,a<n->b<n->Sz (Rw f c a b) 500:=fun a b ha hb=>by
 obtain⟨hF,hi⟩:=iT hc;cases c with
 |add i j=>
  have hi:i<n:=hi;show Sz (KH i j (cF f i j) a b) 500;rcases s7 idF j i (cF f i j) a b with e|e
  ·unfold KH;rw[e];exact(h.szc kb hn hi hF.1).mono (by have:=kb.z4;omega)
  unfold KH;rw[e];exact(Ev a b).mono (by omega)
 |swp m=>exact(Ev _ b).mono (by omega)
theorem SN {n:Nat} (f:FF) {c:Ch} (hc:scanF f n=some c):bi n n (cngF n f (Rw f c))=bi n n (VM f c):=by
 obtain⟨hF,hi⟩:=iT hc;refine ig fun a b ha hb=>?_
 cases c with
 |add i j=>exact O5 (by have:=hF.1;omega) (by have:i<n:=hi;have:=hF.1;omega) f a b ha hb
 |swp m=>exact SP hi f a b ha hb
structure H4 (N B Z n:Nat) (f:FF):Prop where
 good:GoodP n f
 sz: ∀i j,i<n->j<n->Sz (f i j) 400
 st:RedI N B Z n f f idF 0 0
theorem H4.dk {N B S Z n:Nat} {f:FF} (kb:Do N B S Z) (k:H4 N B Z n f) (hn1:1<=n):dk f n<=10000:=by
 obtain⟨hs,hp,hd⟩:=k.good;have:=(Aj hp (n-1) (by omega)).2;rw[show n-1+1=n by omega]at this;omega
theorem H4.ex {N B S Z n:Nat} {f:FF} (kb:Do N B S Z) (k:H4 N B Z n f) (hn1:1<=n) (hn:n<=N): ∃h T,RedR h n/\Rch n f idF h T:=by
 obtain⟨h,T,hr⟩:=p7 (f0:=f) kb hn _ f idF 0 0 (Nat.le_refl _) k.st;exact⟨h,T,Qf kb hn1 hn (k.dk kb hn1) hr 0 0 k.st,hr⟩
theorem RJ {n:Nat} {f:FF} (hn1:1<=n) (hn:n<=8) (hb:Dw f) (hg:GoodP n f):H4 8 bB 41 n f:=
 ⟨hg,fun i j _ _=>(hb.i64 i j).sz (by omega),RedI.start hn1 hn hg.1 hg.2.1 (fun a b=>by have:=hb a b;omega) (fun a b _ _=>Ev a b)⟩
theorem H5 {N B S Z:Nat} (kb:Do N B S Z) (n:Nat) (f h T:FF) (hn1:1<=n) (hn:n<=N) (k:H4 N B Z n f) (hred:RedR h n) (hr:Rch n f idF h T):
  CallC Tryz.prog 16 [dV (bi n n f)] ⟨dv 0 n n h,.tup [(false,[.sl 0 0 0 n]),(false,[.p (.sl (ls (fR fZ) (bi n n T)))]),(false,[.p (.raw (.int .i64 0))])]⟩:=by
 have hn8:n<=8:=Nat.le_trans hn kb.n8;have hst:=k.st;obtain⟨hs,hp,hd⟩:=k.good;have hsz: ∀i j,i<n->j<n->Sz (f i j) 1024:=fun i j hi hj=>(k.sz i j hi hj).mono (by omega)
 obtain⟨e,he,c1⟩:=pz n n f hn1 (by omega) hn1 (by omega) hsz;have he0:e=0:=he.2 ⟨rfl,hn8,hs,hp⟩;subst he0;have c2:=C2 n f hn1 (by omega) hsz;rw[decide_eq_true hd]at c2;have c3:=Dy n n f (by omega) hn1 (by omega) (fun i j hi hj=>(hsz i j hi hj).mono (by omega));have c4:=uD n hn1 (by omega);have hml:=aW n n f;refine aS Tryz.func16 rfl Tryz.ntmps16 (aT (k:=aF (cb [⟨1,_,_,_,c1⟩] (k:=aK (k:=aJ rfl (aH (aF (cb [⟨1,_,_,_,c2⟩] (k:=aJ rfl (aH (cb [⟨1,_,_,_,c3⟩] (k:=fw [⟨2,_,_,_,c4⟩] hml (k:=?_)))))))))))));refine aO (G:=Vz N B Z n f h T) (fun g=>⟨(j4 (jk::jk::dV (bi n n g.f)::dV (bi n n g.t)::j16 (j16 (j4 (j4 (jk::[])))))),Hm []⟩) (fun g=>RB S n g.f g.s) ⟨f,idF,0,0,hst,hr⟩ ?_ ?_
 ·refine(aE (tm:=(j4 (jk::jk::.one (.sl 22 0 0 n)::.one (.sl 26 0 0 n)::j16 (j16 (j4 (j4 (jk::[]))))))) (l:=[(22,gp 22 n n f),(26,gp 26 n n idF)]) ⟨fE 0 22 n n _,fE 0 26 n n _,trivial⟩ (by simp[wk])).trans ((bT 22 (iv rfl)).trans ((aE (tm:=(j4 (jk::jk::dV (bi n n f)::.one (.sl 26 0 0 n)::j16 (j16 (j4 (j4 (jk::[]))))))) (l:=[(26,gp 26 n n idF)]) ⟨rfl,trivial⟩ (by
   simp[wk];exact⟨(LA (H:=Hm [(22,gp 22 n n f),(26,gp 26 n n idF)]) (d:=22) (n:=n) (c:=n) (f:=f) rfl).symm,rfl⟩)).trans ((bT 26 (iv rfl)).trans (aE trivial ?_))))
  simp[wk];exact⟨rfl,(LA (H:=Hm [(26,gp 26 n n idF)]) (d:=26) (n:=n) (c:=n) (f:=idF) rfl).symm⟩
 rintro⟨g,t,s,adds,hI,hrc⟩;simp only;have cs:=TP n g hn1 hn8 hI.dfn.pos (fun i j hi hj=>(hI.szf kb hn hi hj).mono (by omega));cases hc:scanF g n with
 |none=>
  obtain⟨rfl,rfl⟩:g=h/\t=T:=by
   cases hrc with
   |done _ _ _=>exact⟨rfl,rfl⟩
   |step _ _ _ _ c hc' _=>rw[hc]at hc';cases hc'
  have hes:=iP hn1 hn8 hred;have ct:=Ks n n g hn1 (by omega) hn1 (by omega) (fun i j hi hj=>by have:=hes i hi j hj;exact⟨by omega,by omega⟩);rw[hc]at cs;refine aG (fw [⟨1,_,_,_,cs⟩] (aP @Uh.eq_1 @Uh.eq_2) (k:=aF (bC (k:=aR rfl (fw [⟨1,_,_,_,ct⟩] @vD.eq_1 (k:=?_))))));refine bL.weak (aE (tm:=(j4 (jk::jk::jk::dV (bi n n t)::jk::jk::jk::.one (.sl 38 0 0 n)::j16 (j16 (j4 (jk::[])))))) (l:=[(38,dv 38 n n g)]) ⟨cQ 0 38 _ _ _,trivial⟩ (by simp[wk])) ?_;refine bC (k:=?_);refine bA ⟨.inr rfl,_,ci.refl _,?_⟩;refine⟨.tup [(false,[.sl 38 0 0 n]),(false,[.p (.sl (ls (fR fZ) (bi n n t)))]),(false,[.p (.raw (.int .i64 0))])],38,?_,wM (by simp[selfTV,cW]) (by decide),(cQ 38 0 _ _ _).symm,rfl⟩;simp(disch:=omega) only[kd,Tryz.results16]
 |some c=>
  have hrc':Rch n (VM g c) (im n t (Rw g c)) h T:=by
   cases hrc with
   |done _ _ hc'=>rw[hc]at hc';cases hc'
   |step _ _ _ _ c' hc' hr'=>
    rw[hc]at hc';injection hc' with hc'
    subst hc';exact hr'
  rw[hc]at cs;have hch:=Ja kb hI hn hc;have ha:=hI.adds_le kb hn;have cc:=AT n g (Rw g c) hn1 (by omega) (fun i j hi hj=>(hI.szf kb hn hi hj).mono (by omega)) (fun i j hi hj=>(hch i j hi hj).mono (by omega));rw[SN g hc]at cc;have cp:=rO n n n t (Rw g c) hn1 (by omega) hn1 (by omega) hn1 (by omega) (fun i j hi hj=>(hI.szt i j hi hj).mono (Nat.le_trans (Nat.add_le_add_left (Nat.mul_le_mul_left (Z+4) ha) 1) (by have:=kb.sz;omega))) (fun i j hi hj=>(hch i j hi hj).mono (by omega));refine aG (fw [⟨1,_,_,_,cs⟩] (aP @Uh.eq_1 @Uh.eq_2) (k:=aF (bC (k:=aJ rfl (aH (UA [⟨2,_,_,_,cc⟩,⟨5,_,_,_,cp⟩] (k:=?_)))))));cases c with
  |add i j=>
   refine⟨⟨_,_,s,adds+1,(hI.add kb hn hc).1,hrc'⟩,hI.mu_add kb hn hc,aE trivial ?_⟩;simp[wk];exact⟨rfl,rfl⟩
  |swp m=>
   refine⟨⟨_,_,s+1,adds,hI.swap kb hn hc,hrc'⟩,hI.mu_swap kb hn hc,aE trivial ?_⟩;simp[wk];exact⟨rfl,rfl⟩
theorem zw {f:FF} (h0: ∀a b,a≠b->f a b=0) (h1: ∀a,0<f a a): ∀k,(0<dk f k/\ ∀t,t<k->0<dk f (t+1))/\ ∀a b,k<=a->k<=b->bk f k a b=dk f k*f a b
 |0=>⟨⟨by rw[da];omega,fun t ht=>by omega⟩,fun a b _ _=>by rw[dz,da,Int.one_mul]⟩
 |k+1=>by
  obtain⟨⟨p0,p1⟩,p2⟩:=zw h0 h1 k;have e:dk f (k+1)=dk f k*f k k:=by rw[ca,p2 k k (by omega) (by omega)]
  have hpos:0<dk f (k+1):=by rw[e];exact Int.mul_pos p0 (h1 k)
  refine⟨⟨hpos,fun t ht=>?_⟩,fun a b ha hb=>?_⟩
  ·by_cases et:t=k
   ·subst et;exact hpos
   exact p1 t (by omega)
  have s:=sylv f k (fun t ht=>by have:=p1 t ht;omega) a b;rw[p2 a b (by omega) (by omega),p2 a k (by omega) (by omega),h0 a k (by omega),Int.mul_zero,Int.zero_mul,Int.sub_zero]at s;refine Int.eq_of_mul_eq_mul_left (show dk f k≠0 by omega) ?_;rw[s];exact Int.mul_left_comm _ _ _
theorem Gj {f:FF} (h0: ∀a b,a≠b->f a b=0) (h1: ∀a,0<f a a) (h2: ∀a,f a a<=2): ∀k,dk f k<=2^k
 |0=>by rw[da];decide
 |k+1=>by
  obtain⟨⟨p0,_⟩,p2⟩:=zw h0 h1 k;rw[ca,p2 k k (by omega) (by omega),Int.pow_succ];have ih:=Gj h0 h1 h2 k;exact Int.mul_le_mul ih (h2 k) (Int.le_of_lt (h1 k)) (Int.le_trans (Int.le_of_lt p0) ih)
theorem Ld (L:List Int) (p n:Nat) (hn1:1<=n) (hn:n<=8):GoodP n (gW L p 2):=by
 have h0: ∀a b,a≠b->gW L p 2 a b=0:=fun a b h=>by unfold gW;rw[if_neg h]
 have h1: ∀a,0<gW L p 2 a a:=fun a=>by unfold gW;rw[if_pos rfl];omega
 have h2: ∀a,gW L p 2 a a<=2:=fun a=>by
  unfold gW;rw[if_pos rfl];have:=mf (n:=2) L (lD L p a) (by omega);omega
 have hpos: ∀k,0<dk (gW L p 2) (k+1):=fun k=>(zw h0 h1 (k+1)).1.1
 have hdet: ∀k,detF (k+1) (gW L p 2)=dk (gW L p 2) (k+1):=fun k=>mn fun t _=>by have:=hpos t;omega
 refine⟨fun a _ b _=>?_,fun k _=>by rw[hdet];exact hpos k,?_⟩
 ·by_cases e:a=b
  ·rw[e]
  rw[h0 a b e,h0 b a (Ne.symm e)]
 have e:=hdet (n-1);rw[show n-1+1=n by omega]at e;rw[e];have h3:=Gj h0 h1 h2 n;have h4:(2:Int)^n<=2^8:=by
  have:=Nat.pow_le_pow_right (show 0<2 by omega) hn
  exact_mod_cast this
 have h5:(2:Int)^8=256:=by decide
 omega
theorem vE (kind:Nat) (L:List Int) (n:Nat) (hn1:1<=n) (hn:n<=8):GoodP n (mQ kind L n)/\Dw (mQ kind L n):=by
 unfold mQ;split
 ·rename_i h;exact⟨h,G5 kind L n⟩
 exact⟨Ld L _ n hn1 hn,zu (by omega) (by omega)⟩
theorem OC (dim kind:Nat) (L B:List Int) (most n:Nat) (h T:FF) (hL:I8 L) (hdim:dim<=255) (hkind:kind<=255) (hm1:1<=most) (hm8:most<=8) (hn:n=1+dim%most) (hr:RedR h n) (hT:Rch n (mQ kind L n) idF h T):
  CallC Tryz.prog 5 [tL dim kind L B,.raw (.int .i64 (most:Int))] ⟨dv 0 n n h,.one (.sl 0 0 0 n)⟩:=by
 have hn1:1<=n:=by omega
 have hn8:n<=8:=by have:=Nat.mod_lt dim (show 0<most by omega);omega
 have c1:=R8 dim kind L B most n hL hdim hkind hm1 hm8 hn;obtain⟨hg,hb⟩:=vE kind L n hn1 hn8;have c3:=H5 VK n (mQ kind L n) h T hn1 hn8 (RJ hn1 hn8 hb hg) hr hT;have c2:=Se n n (mQ kind L n) hn1 (by omega) hn1 (by omega) (fun i j _ _=>hb.i64 i j);generalize mQ kind L n=gg at*
 refine aS Tryz.func5 rfl Tryz.ntmps5 (pC @tL.eq_1 (k:=fw [⟨2,_,_,_,c1⟩,⟨3,_,_,_,c2⟩,⟨4,_,_,_,c3⟩] @tL.eq_1 (k:=?_)));refine bL.weak (aE (tm:=(j4 (jk::.one (.sl 13 0 0 n)::j4 (j4 (j4 ([])))))) (l:=[(13,dv 13 n n h)]) ⟨cQ 0 13 _ _ _,trivial⟩ (by simp[wk])) ?_;refine bC (k:=?_);refine bA ⟨.inr rfl,_,ci.refl _,?_⟩;refine⟨.one (.sl 13 0 0 n),13,?_,rfl,(cQ 13 0 _ _ _).symm,rfl⟩;simp(disch:=omega) only[kd,Tryz.results5]
theorem OB (dim kind:Nat) (L B:List Int) (most n:Nat) (h T:FF) (hL:I8 L) (hdim:dim<=255) (hkind:kind<=255) (hm1:1<=most) (hm8:most<=8) (hn:n=1+dim%most) (hr:RedR h n) (hT:Rch n (mQ kind L n) idF h T):
  CallC Tryz.prog 5 [tL dim kind L B,.raw (.int .i64 (most:Int))] ⟨[],dj (bi n n h)⟩:=
 (OC dim kind L B most n h T hL hdim hkind hm1 hm8 hn hr hT).fzI
theorem R7 (kind:Nat) (L:List Int) {n:Nat} (hn1:1<=n) (hn8:n<=8): ∃h T,RedR h n/\Rch n (mQ kind L n) idF h T:=by
 obtain⟨hg,hb⟩:=vE kind L n hn1 hn8;exact(RJ hn1 hn8 hb hg).ex VK hn1 hn8
theorem R6 (dim kind:Nat) (L B:List Int) (most n:Nat) (hL:I8 L) (hdim:dim<=255) (hkind:kind<=255) (hm1:1<=most) (hm8:most<=8) (hn:n=1+dim%most):
  ∃h,RedR h n/\CallC Tryz.prog 5 [tL dim kind L B,.raw (.int .i64 (most:Int))] ⟨[],dj (bi n n h)⟩:=by
 obtain⟨h,T,h1,h2⟩:=R7 kind L (n:=n) (by omega) (by have:=Nat.mod_lt dim (show 0<most by omega);omega);exact⟨h,h1,OB dim kind L B most n h T hL hdim hkind hm1 hm8 hn h1 h2⟩
theorem PF (l:List Int) (k:Nat) (v:Int):(lc fI l).set k [AV.p (.raw (.int .i64 v))]=lc fI (l.set k v):=by simp[lc,fI,List.map_set]
theorem Kl {h:FF} {n:Nat} (hn1:1<=n) (hn:n<=8) (hr:RedR h n):MI (bi n n h):=fun r hr' z hz=>by
 obtain⟨i,hi,rfl⟩:=List.mem_map.1 hr';obtain⟨j,hj,rfl⟩:=List.mem_map.1 hz;have:=iP hn1 hn hr i (List.mem_range.1 hi) j (List.mem_range.1 hj);exact⟨by omega,by omega⟩
section
open Go.ChangeShapes Go.WideShapes Go.ChangeAt Go.RowKit
theorem Qg {w:World} {l:List Int} {A:Option Addr} {c:Nat} (hl:l.length<=c) (hm:l.length<=9223372036854775807) (h:RdI .i8 w A l):cu (fun _=>False) w (.sl (ls f8 l)) (.slice A l.length c):=by
 cases l with
 |nil=>exact cu.nil _ _
 |cons z0 l0=>
  obtain⟨b,off,rfl,hc⟩:=h (by simp);have h0:=hc 0 (.int .i8 z0) (by simp);have hb:b<w.heap.size:=oC h0;have:=cu.sl (X:=fun _=>False) (w:=w) b off 1 c (ls f8 (z0::l0)) (fun i _=> .int .i8 ((z0::l0).getD i 0)) (fun h=>h) hb (fun e he=>by
   obtain⟨z,_,rfl⟩:=List.mem_map.1 he;rfl) (by rw[fD];exact hl) (by rw[fD];exact hm) (fun i e j x he hx=>by
   rw[iA]at he;obtain⟨z,hz,rfl⟩:=Option.map_eq_some_iff.1 he;cases j with
   |succ j=>simp[f8]at hx
   |zero=>
    have:=hc i (.int .i8 z) (by rw[List.getElem?_map,hz];rfl);simp only[Nat.mul_one,Nat.add_zero,List.getD_eq_getElem?_getD,hz,Option.getD_some];exact this) (fun i e j x he hx=>by
   rw[iA]at he;obtain⟨z,hz,rfl⟩:=Option.map_eq_some_iff.1 he;cases j with
   |succ j=>simp[f8]at hx
   |zero=>
    simp[f8]at hx;subst hx;simp only[List.getD_eq_getElem?_getD,hz,Option.getD_some];exact cu.raw _ rfl)
  rw[fD]at this;exact this
theorem wg {H:Type} {enc:TypeId×Value->H} {P:Program} {W:World} {base:Nat} {held:Bool} {t e:TypeId} {n:Nat} {v:Value} {y:DataW H×List MemPlace}
  (ht:P.underlying t=some (.slice e)) (he:P.underlying e=some (.int .i8)) (hc:P.cellsOf e=1) (h:DataW.trod enc P W base (fun _=>true) held n t [v]=some y):
  ∃L:List Int,cu (fun _=>False) W (.sl (ls f8 L)) v/\I8 L:=by
 rcases DataW.trod_slice ht h with⟨hcs,_⟩|⟨x,l,c,_,_,_,_,hcs,_⟩
 ·simp at hcs;subst hcs;exact⟨[],cu.nil _ _,fun z hz=>by simp at hz⟩
 simp at hcs;subst hcs;obtain⟨zs,g1,g2,g3,g4,g5,_⟩:=Mw (enc:=enc) (base:=base) (held:=held) (d:=y.1) (p:=y.2) ht he hc ⟨n,by simpa[Value.cells] using h⟩;refine⟨zs,?_,fun z hz=>Oi (g5 z hz)⟩;rw[g1];unfold maxLen at g3;exact Qg (by omega) (by omega) g4
theorem wh {H:Type} {enc:TypeId×Value->H} {P:Program} {W:World} {base:Nat} {held:Bool} {t:TypeId} {n:Nat} {v:Value} {y:DataW H×List MemPlace}
  (ht:P.underlying t=some (.int .u8)) (h:DataW.trod enc P W base (fun _=>true) held n t [v]=some y): ∃m:Nat,v= .int .u8 (m:Int)/\m<=255:=by
 obtain⟨m,hv,_,hw⟩:=DataW.trod_int ht h;have:=Oj hw;refine⟨m.toNat,?_,by omega⟩;simp at hv;rw[hv]
 congr 1
 omega
theorem UX {w:World} {d k:Nat} {L B:List Int} {v2 v3:Value} (h2:cu (fun _=>False) w (.sl (ls f8 L)) v2) (h3:cu (fun _=>False) w (.sl (ls f8 B)) v3):
  (tL d k L B).rel (fun _ _=>none) (fun _=>[]) (fun _=>False) w (.agg #[.int .u8 (d:Int),.int .u8 (k:Int),v2,v3]):=by
 refine⟨#[.int .u8 (d:Int),.int .u8 (k:Int),v2,v3],rfl,rfl,fun j x hx=>?_⟩
 match j,hx with
 |0,hx=>simp at hx;subst hx;exact⟨_,rfl,rfl,cu.raw _ rfl⟩
 |1,hx=>simp at hx;subst hx;exact⟨_,rfl,rfl,cu.raw _ rfl⟩
 |2,hx=>simp at hx;subst hx;exact⟨_,rfl,h2.one,h2⟩
 |3,hx=>simp at hx;subst hx;exact⟨_,rfl,h3.one,h3⟩
 |j+4,hx=>simp at hx
theorem UH {w:World}: ∀{ts:List TV} {vs:List Value},ts.length=vs.length->(∀(j:Nat) t v,ts[j]?=some t->vs[j]?=some v->t.rel (fun _ _=>none) (fun _=>[]) (fun _=>False) w v)->
  ∀(j:Nat) t,ts[j]?=some t-> ∃v:Value,vs.toArray[j]?=some v/\t.rel (fun _ _=>none) (fun _=>[]) (fun _=>False) w v:=fun{ts vs} hl h j t hj=>by
 have hlt:=(List.getElem?_eq_some_iff.1 hj).1;obtain⟨v,hv⟩: ∃v,vs[j]?=some v:=⟨_,List.getElem?_eq_getElem (by omega)⟩;exact⟨v,by simpa using hv,h j t v hj hv⟩
end
def fl (c:Nat) (g:FF):Nat->Int:=fun k=>g (k/c) (k%c)
theorem UO {c:Nat} (g:FF) {i j:Nat} (hj:j<c):fl c g (i*c+j)=g i j:=by
 unfold fl;have h:=zx (i:=i) (j:=j) (sz:=c) hj;rw[h.1,h.2]
theorem qK {n c:Nat} {g g':FF} (h: ∀a b,a<n->b<c->g a b=g' a b):bj (n*c) (fl c g)=bj (n*c) (fl c g'):=gn fun k hk=>by
 have hc:0<c:=by
  rcases Nat.eq_zero_or_pos c with h|h
  ·subst h;simp at hk
  exact h
 exact h _ _ (Nat.div_lt_of_lt_mul (by rw[Nat.mul_comm];exact hk)) (Nat.mod_lt _ hc)
theorem Ly {n c i j:Nat} (g:FF) {v:Int} (hi:i<n) (hj:j<c):(bj (n*c) (fl c g)).set (i*c+j) v=bj (n*c) (fl c (upd g i j v)):=by
 rw[rp];refine gn fun k hk=>?_
 have hc:0<c:=by omega
 unfold fl upd;by_cases h:k=i*c+j
 ·subst h;have h:=zx (i:=i) (j:=j) (sz:=c) hj;rw[h.1,h.2];simp
 rw[if_neg h];by_cases h1:k/c=i
 ·have h2:k%c≠j:=fun hh=>h (by
   have:=Nat.div_add_mod k c;rw[h1,hh,Nat.mul_comm]at this;exact this.symm)
  rw[if_pos h1];show _=if k%c=j then v else g i (k%c)
  rw[if_neg h2,h1]
 rw[if_neg h1]
theorem GH (l:List Int) (k:Nat) (v:Int):(lc fZ l).set k [.p (.raw (.bool (decide (v<0)))),.p (.sl (ls fU (aL v.natAbs)))]=lc fZ (l.set k v):=by
 rw[<- zR];rfl
def Fk (d n c i:Nat):List (List AV):=(List.range n).map fun k=>if k<i then[.sl d 1 (k*c) c]else[.p (.sl [])]
def AI (d n c i:Nat) (g:FF):List OObj:=[⟨61,1,Fk d n c i⟩,⟨32,2,lc fZ (bj (n*c) (fl c g))⟩]
theorem rB (d n c i:Nat):(Fk d n c i).length=n:=by simp[Fk]
theorem ld {d n c i k:Nat} (h:k<n):(Fk d n c i)[k]?=some (if k<i then[.sl d 1 (k*c) c]else[.p (.sl [])]):=by
 unfold Fk;rw[List.getElem?_map,List.getElem?_range h];rfl
theorem Ho {d n c i:Nat}:(Fk d n c i).set i [.sl d 1 (i*c) c]=Fk d n c (i+1):=by
 apply List.ext_getElem?;intro k;by_cases hk:k<n
 ·by_cases h:k=i
  ·subst h;rw[List.getElem?_set_self (by rw[rB];exact hk),ld hk,if_pos (Nat.lt_succ_self k)]
  rw[List.getElem?_set_ne (Ne.symm h),ld hk,ld hk];by_cases h2:k<i
  ·rw[if_pos h2,if_pos (by omega)]
  rw[if_neg h2,if_neg (by omega)]
 rw[ar (by rw[List.length_set,rB];omega),ar (by rw[rB];omega)]
theorem Db (d n c:Nat):([⟨61,1,ae n [.raw (.slice none 0 0)]⟩]:List OObj).map zO=[⟨61,1,Fk d n c 0⟩]:=by
 simp[zO,Fk,Dm,Dv,List.map_const']
theorem Hr (n c:Nat) (g:FF):([⟨32,2,ae (n*c) [.raw (.bool false),.raw (.slice none 0 0)]⟩]:List OObj).map zO=[⟨32,2,lc fZ (bj (n*c) (fl c (part g 0 0)))⟩]:=by
 have e2:bj (n*c) (fl c (part g 0 0))=ae (n*c) 0:=by
  apply List.ext_getElem?;intro b;by_cases hb:b<n*c
  ·rw[aQ _ hb,List.getElem?_replicate,if_pos hb];simp[fl,part]
  rw[ar (by rw[bf];omega),ar (by simp;omega)]
 simp[e2,zO,lc,fZ,Dm,Dv,cx,ls]
theorem Da (ty d n c:Nat):ra ⟨ty,1,Fk d n c 0⟩:=fun e he x hx=>by
 simp only[Fk,ak]at he;obtain⟨k,_,rfl⟩:=he;simp at hx;subst hx;rfl
theorem Hp {H:OH} {d n c i:Nat} {g:FF} (h:H d=AI d n c i g):xg H d:=fun r o ho e he x hx=>by
 rw[h]at ho
 match r,ho with
 |0,ho=>
  simp[AI]at ho;subst ho;simp only[Fk,ak]at he;obtain⟨k,_,rfl⟩:=he;split at hx
  ·simp at hx;subst hx;exact .inr ⟨1,_,_,⟨32,2,lc fZ (bj (n*c) (fl c g))⟩,rfl,by rw[h];rfl,eY _ _ _⟩
  simp at hx;subst hx;exact .inl rfl
 |1,ho=>
  simp[AI]at ho;subst ho;exact .inl (eY _ _ _ e he x hx)
 |r+2,ho=>simp[AI]at ho
theorem JC {n c i:Nat} (g:FF) (hi:i<n):((bj (n*c) (fl c g)).take (i*c+c)).drop (i*c)=bj c (g i):=by
 have hk:i*c+c<=n*c:=by
  have:=Nat.mul_le_mul_right c hi;rw[Nat.succ_mul]at this;exact this
 apply List.ext_getElem?;intro j;rw[List.getElem?_drop,List.getElem?_take];by_cases hj:j<c
 ·rw[if_pos (by omega),aQ _ (by omega),UO g hj,aQ _ hj]
 rw[if_neg (by omega),ar (by rw[bf];omega)]
theorem NJ {H:OH} {n c:Nat} {g:FF} (_hc:1<=c) (h:H 5016=AI 5016 n c n g):gX H 5016 (.one (.sl 5016 0 0 n))= .one (.p (.sl (ls (fR fZ) (bi n c g)))):=by
 have h0:(H 5016)[0]?=some ⟨61,1,Fk 5016 n c n⟩:=by rw[h];rfl
 have h1:(H 5016)[1]?=some ⟨32,2,lc fZ (bj (n*c) (fl c g))⟩:=by rw[h];rfl
 simp only[gX,fX,if_true,h0]
 congr 3
 rw[Nat.zero_add,List.drop_zero,List.take_of_length_le (by rw[rB];exact Nat.le_refl _)];apply List.ext_getElem?;intro k;rw[List.getElem?_map,iA];by_cases hk:k<n
 ·rw[ld hk,if_pos hk,bx c g hk];simp only[Option.map_some,List.map_cons,List.map_nil,kJ,h1,gS,zP,JC g hk,qQ];rfl
 rw[ar (by rw[rB];omega),ar (by rw[aW];omega)];rfl
end Go.Proofs.YtiollbhgpiiodaaGreatDoor
