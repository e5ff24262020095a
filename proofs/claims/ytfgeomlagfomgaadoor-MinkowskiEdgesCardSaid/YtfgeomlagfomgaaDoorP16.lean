/-
  Part 17 of a proof (walks and plain facts).
-/
import Derived.Test.YtfgeomlagfomgaaDoorP15
import Derived.ProofKit
import Derived.LaidMore
import Derived.LaidLaws
import Derived.LaidHandle
import Derived.OpenShut
set_option linter.all false
set_option maxRecDepth 100000
set_option maxHeartbeats 64000000
open Nat renaming reduceAdd → aa
open Nat renaming reduceEqDiff → ab
open List renaming replicate → ae
open Nat renaming reduceLeDiff → ah
open List renaming getElem?_map → ax
namespace Go.Proofs.YtfgeomlagfomgaaDoor
open Go.RowKit
abbrev iy:List PV:=[.raw (.int .i64 1),.raw (.int .i64 3),.raw (.int .i64 9),.raw (.int .i64 27)]
theorem GZ (i code j:Nat): -1<=iA i code j/\iA i code j<=1:=by
 unfold iA;split
 ·exact By code j
 split<;>omega
theorem Gu {i:Nat}:a4 (In (fun _=>0) i 1)=a4 (eC i):=lh fun j _=>by unfold In eC;rfl
theorem BI {c c':Nat->Int} {b:Bool} (h:b=true↔ ∀j,j<4->c j=c' j):wt (a4 c) (a4 c')=some b:=by
 have e:wt (a4 c) (a4 c')=some (decide (c 0=c' 0)&&(decide (c 1=c' 1)&&(decide (c 2=c' 2)&&(decide (c 3=c' 3)&&true)))):=rfl;rw[e]
 congr 1
 apply Bool.eq_iff_iff.2;rw[h];simp only[Bool.and_eq_true,decide_eq_true_eq,and_true];constructor
 ·rintro⟨h0,h1,h2,h3⟩ j hj
  match j,hj with
  |0,_=>exact h0
  |1,_=>exact h1
  |2,_=>exact h2
  |3,_=>exact h3
 exact fun h=>⟨h 0 (by omega),h 1 (by omega),h 2 (by omega),h 3 (by omega)⟩
theorem vW:packT Tryd.prog 3 [.raw (.int .i64 1),.raw (.int .i64 3),.raw (.int .i64 9),.raw (.int .i64 27)]=some (.raw (.int .i64 1)):=by kernel_rfl
theorem vX:packT Tryd.prog 3 [.raw (.int .i64 3),.raw (.int .i64 9),.raw (.int .i64 27)]=some (.raw (.int .i64 3)):=by kernel_rfl
theorem vY:packT Tryd.prog 3 [.raw (.int .i64 9),.raw (.int .i64 27)]=some (.raw (.int .i64 9)):=by kernel_rfl
theorem vZ:packT Tryd.prog 3 [.raw (.int .i64 27)]=some (.raw (.int .i64 27)):=by kernel_rfl
theorem zb {i:Nat} (h:i<4):packT Tryd.prog 3 ((iy.drop i).map AV.p)=some (.raw (.int .i64 ((3^i:Nat):Int))):=by
 match i,h with
 |0,_=>exact vW
 |1,_=>exact vX
 |2,_=>exact vY
 |3,_=>exact vZ
structure Jq (i:Nat) where
 k:Nat
 hk:k<=3^i
theorem ux (n:Nat) (f:FF) (i:Nat) (hi:i<n) (hn:n<=4) (hf: ∀i j,i<n->j<n-> -1125899906842624<=f i j/\f i j<=1125899906842624):
  CallG Tryd.prog 0 63 12 [bT (bL n n f),.raw (.int .i64 (i:Int))] iy ⟨[],tC (ip n f i (3^i))⟩:=by
 have hi4:i<4:=by omega
 have h3i:3^i<=27:=Nat.le_trans (Nat.pow_le_pow_right (by omega) (show i<=3 by omega)) (by decide);have a1:=rL (fun _=>0) 1 hi4;rw[Gu]at a1;refine eJ Tryd.func12 rfl (by kernel_rfl) ?_;rw[Tryd.ntmps12];refine aE fun _ K=>?_;simp(disch:=omega) only[kd,gN,bT,aa,ae];apply K
 refine aE fun _ K=>?_;simp(disch:=omega) only[kd,gN,aa,ab];apply K
 refine db.weak (aC (tm:=(bT (bL n n f)::rN i::jk::jk::.one (.ptr 4 0 0 0)::.one (.ptr 5 0 0 0)::j16 (j4 (jk::jk::jk::[])))) (l:=[(4,vB fun _=>0),(5,vB fun _=>0)]) ⟨rfl,rfl,trivial⟩ (by simp[wk])) ?_;refine aE fun _ K=>?_;simp(disch:=omega) only[kd,gN,aa,bT,hi4,ab,cJ,ah,a1];apply K
 refine bj (yS 2 i 12 (.raw (.int .i64 ((3^i:Nat):Int))) [] [] (by simp[wk]) (by decide) fun K hK=>?_);simp(disch:=omega) only[kd,gN,hi4];apply hK;clear hK K;refine⟨⟨⟨_,_,_,rfl,rfl,rfl,rfl,by simp[AS.ev],?_⟩⟩,by simp,?_⟩
 ·exact zb hi4
 intro K hK;simp only[kd,aa];apply hK;clear hK K;refine dL (G:=Jq i) (fun g=>⟨(bT (bL n n f)::rN i::jk::jk::.one (.ptr 4 0 0 0)::.one (.ptr 5 0 0 0)::j4 (jk::jk::.raw (.int .i64 ((3^i:Nat):Int))::rN g.k::j4 (j4 (j4 (jk::jk::jk::[]))))),Hm [(4,vB fun _=>0),(5,vB (ip n f i g.k))]⟩) (fun _=>iy) (fun g=>3^i-g.k) ⟨0,Nat.zero_le _⟩ ?_ rfl ?_
 ·refine aC ⟨rfl,rfl,trivial⟩ ?_;simp[wk]
 rintro⟨k,hk⟩;simp only;by_cases hm:k<3^i
 ·have hC:=sy i k hi4 (by omega);have hN1:=ye n f (iA i k) (by omega) hn hf (GZ i k);have hN2:=ye n f (ip n f i k) (by omega) hn hf (pV n f i k).2.2;refine aE fun _ K=>?_;simp(disch:=omega) only[kd,gN,bT];apply K
  refine fH rfl ?_;refine bj (b9 ?_);refine aE fun _ K=>?_;simp only[kd];apply K
  refine ju [⟨2,_,_,_,hC⟩] [] fun _ K=>?_;simp(disch:=omega) only[kd,gN,tC,aa,iv,mu,ab,cJ,dR];apply K
  by_cases hlt:nrm n f (iA i k)<nrm n f (ip n f i k)
  ·have es:ip n f i (k+1)=iA i k:=by rw[ip,if_pos hlt]
   refine jY bE [⟨2,_,_,_,hN1⟩,⟨5,_,_,_,hN2⟩] [] (by kernel_rfl) fun _ K=>?_;simp(disch:=omega) only[kd,gN,bT,tC,aa,ab,cJ,eI,dR,Nat.reduceBEq];apply K
   refine ib rfl ?_;refine bY fun _ K=>?_;simp(disch:=omega) only[kd,gN,ab,cJ,eI,dR,jv];apply K
   show db _ _ _ _ _ _ _;refine bY fun _ K=>?_;simp(disch:=omega) only[kd,gN,aS];apply K
   refine⟨⟨k+1,by omega⟩,by simp only;omega,aC ⟨rfl,?_,trivial⟩ ?_,rfl⟩
   ·show _=vB (ip n f i (k+1));rw[es];rfl
   simp[wk]
  have es:ip n f i (k+1)=ip n f i k:=by rw[ip,if_neg hlt]
  refine jY bE [⟨2,_,_,_,hN1⟩,⟨5,_,_,_,hN2⟩] [] (by kernel_rfl) fun _ K=>?_;simp(disch:=omega) only[kd,gN,bT,tC,aa,ab,cJ,eI,dR,Nat.reduceBEq];apply K
  refine f8 rfl (d5 ?_);show db _ _ _ _ _ _ _;refine bY fun _ K=>?_;simp(disch:=omega) only[kd,gN,aS];apply K
  refine⟨⟨k+1,by omega⟩,by simp only;omega,aC ⟨rfl,?_,trivial⟩ ?_,rfl⟩
  ·show _=vB (ip n f i (k+1));rw[es];rfl
  simp[wk]
 have hke:k=3^i:=by omega
 subst hke;refine aE fun _ K=>?_;simp(disch:=omega) only[kd,gN,bT];apply K
 refine iV rfl ?_;show db _ _ _ _ _ _ _;refine aE fun _ K=>?_;simp(disch:=omega) only[kd,gN,ab,cJ,eI,dR,jv];apply K
 (refine dQ ⟨.inr rfl,rfl,aI rfl ?_ rfl⟩;simp(disch:=omega) only[kd,gN,Tryd.results12,ab,cJ,eI,tC])
noncomputable def m9 (n:Nat) (f:FF):TV:=match qt n f with
 |some i=> .tup [(false,[.p (.raw (.int .i64 (i:Int)))]),(true,a4 (ip n f i (3^i))),(false,[.p (.raw (.bool true))])]
 |none=> .tup [(false,[.p (.raw (.int .i64 0))]),(true,a4 fun _=>0),(false,[.p (.raw (.bool false))])]
theorem yF {n:Nat} {f:FF} (i:Nat) (hi:i<n) (h: ∀a,a<i-> ¬VioP n f a) (hv:VioP n f i): ∀m j,j<=i->i<j+m->qu n f m j=some i
 |0,j,h1,h2=>by omega
 |m+1,j,h1,h2=>by
  rw[qu];by_cases e:j=i
  ·subst e;rw[if_pos hv]
  rw[if_neg (h j (by omega))];exact yF i hi h hv m (j+1) (by omega) (by omega)
theorem yG {n:Nat} {f:FF} (h: ∀a,a<n-> ¬VioP n f a): ∀m j,j+m<=n->qu n f m j=none
 |0,_,_=>rfl
 |m+1,j,h2=>by rw[qu,if_neg (h j (by omega))];exact yG h m (j+1) (by omega)
structure JS (n:Nat) (f:FF) where
 i:Nat
 hi:i<=n
 ok: ∀a,a<i-> ¬VioP n f a
theorem nA (n:Nat) (f:FF) (hn1:1<=n) (hn:n<=4) (hf: ∀i j,i<n->j<n-> -1125899906842624<=f i j/\f i j<=1125899906842624):
  CallG Tryd.prog 0 63 7 [bT (bL n n f)] iy ⟨[],m9 n f⟩:=by
 have hml:=aU n n f;refine eJ Tryd.func7 rfl (by kernel_rfl) ?_;rw[Tryd.ntmps7];refine aE fun _ K=>?_;simp(disch:=omega) only[kd,gN,aa,bT,ae];apply K
 refine bj (aE fun _ K=>?_);simp only[kd,aa,hml];apply K;refine dL (G:=JS n f) (fun g=>⟨(bT (bL n n f)::jk::.raw (.int .i64 0)::.one (.ptr 3 0 0 0)::.raw (.bool false)::j4 (.raw (.int .i64 (n:Int))::rN g.i::j4 (j4 (j4 (jk::jk::[]))))),Hm [(3,vB fun _=>0)]⟩) (fun _=>iy) (fun g=>n-g.i) ⟨0,by omega,fun a ha=>by omega⟩ ?_ rfl ?_
 ·refine aC ⟨rfl,trivial⟩ ?_;simp[wk]
 rintro⟨i,hi,ok⟩;simp only;by_cases hm:i<n
 ·have hi4:i<4:=by omega
  have hS:=ux n f i hm hn hf;have a1:=rL (fun _=>0) 1 hi4;rw[Gu]at a1;have h4:(∀j,j<4->ip n f i (3^i) j=eC i j)↔ ¬VioP n f i:=by
   rw[<- FE hm];refine⟨fun h j hj=>h j (by omega),fun h j hj=>?_⟩;rcases Nat.lt_trichotomy j i with h1|h1|h1
   ·exact h j (by omega)
   ·exact h j (by omega)
   rw[(pV n f i (3^i)).2.1 j h1];unfold eC;rw[if_neg (by omega)]
  refine aE fun _ K=>?_;simp(disch:=omega) only[kd,gN,bT];apply K
  refine fH rfl ?_;refine bj (b9 ?_);refine aE fun _ K=>?_;simp only[kd];apply K
  refine aE fun _ K=>?_;simp(disch:=omega) only[kd,gN,aa,ab];apply K
  refine db.weak (aC (tm:=(bT (bL n n f)::jk::.raw (.int .i64 0)::.one (.ptr 3 0 0 0)::.raw (.bool false)::rN i::.one (.ptr 6 0 0 0)::jk::jk::rN n::rN i::j4 (j4 (j4 (jk::jk::[]))))) (l:=[(3,vB fun _=>0),(6,vB fun _=>0)]) ⟨rfl,rfl,trivial⟩ (by simp[wk])) ?_;refine aE fun _ K=>?_;simp(disch:=omega) only[kd,gN,aa,bT,hi4,ab,cJ,ah,a1];apply K
  refine dc [⟨2,_,_,_,hS,rfl⟩] [] [] fun _ K=>?_;simp(disch:=omega) only[kd,gN,bT,tC,dW.a,aa,iv,mu,ab,cJ,dR];apply K
  by_cases hv:VioP n f i
  ·have hE:wt (a4 (ip n f i (3^i))) (a4 (eC i))=some false:=BI ⟨fun h=>(by cases h),fun h=>absurd (h4.1 h) (by simpa using hv)⟩;have hvi:qt n f=some i:=yF i hm ok hv n 0 (by omega) (by omega);have eT:m9 n f= .tup [(false,[.p (.raw (.int .i64 (i:Int)))]),(true,a4 (ip n f i (3^i))),(false,[.p (.raw (.bool true))])]:=by unfold m9;rw[hvi]
   rw[eT];refine aE fun _ K=>?_;simp(disch:=omega) only[kd,gN,aa,ab,cJ,eI,hE];apply K
   refine ib rfl ?_;refine iX bE (by kernel_rfl) fun _ K=>?_;simp(disch:=omega) only[kd,gN,aa,ab,cJ,eI,dR,jv];apply K
   (refine dQ ⟨.inr rfl,rfl,aI rfl ?_ rfl⟩;simp(disch:=omega) only[kd,gN,Tryd.results7,ab,cJ,eI])
  have hE:wt (a4 (ip n f i (3^i))) (a4 (eC i))=some true:=BI ⟨fun _=>h4.2 hv,fun _=>rfl⟩;refine aE fun _ K=>?_;simp(disch:=omega) only[kd,gN,aa,ab,cJ,eI,hE];apply K
  refine f8 rfl (d5 ?_);show db _ _ _ _ _ _ _;refine bY fun _ K=>?_;simp(disch:=omega) only[kd,gN,aS];apply K
  refine⟨⟨i+1,by omega,fun a ha=>?_⟩,by simp only;omega,aC ⟨rfl,trivial⟩ ?_,rfl⟩
  ·by_cases e:a=i
   ·subst e;exact hv
   exact ok a (by omega)
  simp[wk]
 have hin:i=n:=by omega
 have hvi:qt n f=none:=yG (fun a ha=>ok a (by omega)) n 0 (by omega);have eT:m9 n f= .tup [(false,[.p (.raw (.int .i64 0))]),(true,a4 fun _=>0),(false,[.p (.raw (.bool false))])]:=by unfold m9;rw[hvi]
 rw[eT];subst hin;refine aE fun _ K=>?_;simp(disch:=omega) only[kd,gN,bT];apply K
 refine iV rfl ?_;show db _ _ _ _ _ _ _;refine aE fun _ K=>?_;simp(disch:=omega) only[kd,gN,aa,cJ,jv];apply K
 (refine dQ ⟨.inr rfl,rfl,aI rfl ?_ rfl⟩;simp(disch:=omega) only[kd,gN,Tryd.results7,aa,a4])
def yK (M:List (List Int)):Prop:=tf M/\dw (ent M) M.length
structure JN (M:List (List Int)) where
 i:Nat
 hi:i+1<=M.length
 ok: ∀a,a<i->ent M a a<=ent M (a+1) (a+1)/\0<=ent M a (a+1)
theorem fX (M:List (List Int)) (r:Bool) (hr:r=true↔yK M):
  CallG Tryd.prog 0 63 4 [bT M] iy ⟨[],.raw (.bool r)⟩:=by
 by_cases hF:tf M
 ·have hI:=qX M true (by simp[hF]);have hn1:=hF.1.1;have hn4:=hF.1.2;have eM:M=bL M.length M.length (ent M):=sA (M:=M) (m:=M.length) fun q hq=>(hF.2.1 q hq).1
  have hV:=nA M.length (ent M) hn1 hn4 fun i j hi hj=>hF.entB hi hj
  rw[<- eM]at hV;refine eJ Tryd.func4 rfl (by kernel_rfl) ?_;rw[Tryd.ntmps4];refine aE fun _ K=>?_;simp only[kd,bT,ae];apply K
  refine bj (ju [⟨1,_,_,_,hI⟩] [] fun _ K=>?_);simp only[kd,bT,aa];apply K;refine f8 rfl (d5 ?_);show db _ _ _ _ _ _ _;refine bj (aE fun _ K=>?_);simp(disch:=omega) only[kd,gN,aa,aS];apply K;have en:(M.length:Int)-1=((M.length-1:Nat):Int):=by omega
  refine dL (G:=JN M) (fun g=>⟨(bT M::jk::.raw (.bool false)::j4 (j4 (jk::.raw (.int .i64 ((M.length-1:Nat):Int))::rN g.i::j16 (j16 (j4 (jk::jk::jk::[])))))),Hm []⟩) (fun _=>iy) (fun g=>M.length-g.i) ⟨0,hn1,fun a ha=>by omega⟩ ?_ rfl ?_
  ·refine aC trivial ?_;simp[wk,en]
  rintro⟨i,hi,ok⟩;simp only;by_cases hm:i+1<M.length
  ·have m1:=bq M.length (ent M) (show i<M.length by omega);have m2:=bq M.length (ent M) hm;rw[<- eM]at m1 m2;have c1:=aX (ent M i) (show i<M.length by omega);have c2:=aX (ent M (i+1)) hm;have c3:=aX (ent M i) hm;have e1:((i:Int)+1).toNat=i+1:=by omega
   by_cases hd:ent M (i+1) (i+1)<ent M i i
   ·have hr0:r=false:=by
     cases r with
     |false=>rfl
     |true=>have:=((hr.1 rfl).2.1 i hm).1;omega
    subst hr0;refine aE fun _ K=>?_;simp(disch:=omega) only[kd,gN,bT];apply K
    refine fH rfl ?_;refine bj (b9 ?_);refine aE fun _ K=>?_;simp only[kd];apply K
    refine iX bE (by kernel_rfl) fun _ K=>?_;simp(disch:=omega) only[kd,gN,aa,m1,fR,c1,aS,e1,m2,c2,reduceCtorEq];apply K
    refine ib rfl ?_;refine aE fun _ K=>?_;simp only[kd];apply K
    (refine dQ ⟨.inr rfl,rfl,aI rfl ?_ rfl⟩;simp(disch:=omega) only[kd,gN,Tryd.results4])
   by_cases hs:ent M i (i+1)<0
   ·have hr0:r=false:=by
     cases r with
     |false=>rfl
     |true=>have:=((hr.1 rfl).2.1 i hm).2;omega
    subst hr0;refine aE fun _ K=>?_;simp(disch:=omega) only[kd,gN,bT];apply K
    refine fH rfl ?_;refine bj (b9 ?_);refine aE fun _ K=>?_;simp only[kd];apply K
    refine iX bE (by kernel_rfl) fun _ K=>?_;simp(disch:=omega) only[kd,gN,aa,m1,fR,c1,aS,e1,m2,c2,c3];apply K
    refine ib rfl ?_;refine aE fun _ K=>?_;simp only[kd];apply K
    (refine dQ ⟨.inr rfl,rfl,aI rfl ?_ rfl⟩;simp(disch:=omega) only[kd,gN,Tryd.results4])
   refine aE fun _ K=>?_;simp(disch:=omega) only[kd,gN,bT];apply K
   refine fH rfl ?_;refine bj (b9 ?_);refine aE fun _ K=>?_;simp only[kd];apply K
   refine iX bE (by kernel_rfl) fun _ K=>?_;simp(disch:=omega) only[kd,gN,aa,m1,fR,c1,aS,e1,m2,c2,c3];apply K
   refine f8 rfl (d5 ?_);show db _ _ _ _ _ _ _;refine bY fun _ K=>?_;simp(disch:=omega) only[kd,gN,aS];apply K
   refine⟨⟨i+1,by omega,fun a ha=>?_⟩,by simp only;omega,aC trivial ?_,rfl⟩
   ·by_cases e:a=i
    ·subst e;exact⟨by omega,by omega⟩
    exact ok a (by omega)
   simp[wk]
  refine aE fun _ K=>?_;simp(disch:=omega) only[kd,gN,bT];apply K
  refine iV rfl ?_;show db _ _ _ _ _ _ _;cases hv:qt M.length (ent M)with
  |none=>
   have hr1:r=true:=hr.2 ⟨hF,fun a ha=>ok a (by omega),fun a ha=>m8 _ 0 hv a (by omega) (by omega)⟩;subst hr1;have eT:m9 M.length (ent M)= .tup [(false,[.p (.raw (.int .i64 0))]),(true,a4 fun _=>0),(false,[.p (.raw (.bool false))])]:=by unfold m9;rw[hv]
   rw[eT]at hV;refine dc [⟨1,_,_,_,hV,rfl⟩] [] [] fun _ K=>?_;simp(disch:=omega) only[kd,gN,bT,dW.a,aa,iv,mu,cJ,dR];apply K
   refine aE fun _ K=>?_;simp only[kd,aa];apply K
   (refine dQ ⟨.inr rfl,rfl,aI rfl ?_ rfl⟩;simp(disch:=omega) only[kd,gN,Tryd.results4])
  |some k=>
   obtain⟨_,k1,k2,_⟩:=f7 _ 0 k hv;have hr0:r=false:=by
    cases r with
    |false=>rfl
    |true=>exact absurd k2 ((hr.1 rfl).2.2 k (by omega))
   subst hr0;have eT:m9 M.length (ent M)= .tup [(false,[.p (.raw (.int .i64 (k:Int)))]),(true,a4 (ip M.length (ent M) k (3^k))),(false,[.p (.raw (.bool true))])]:=by unfold m9;rw[hv]
   rw[eT]at hV;refine dc [⟨1,_,_,_,hV,rfl⟩] [] [] fun _ K=>?_;simp(disch:=omega) only[kd,gN,bT,dW.a,aa,iv,mu,cJ,dR];apply K
   refine aE fun _ K=>?_;simp only[kd,aa];apply K
   (refine dQ ⟨.inr rfl,rfl,aI rfl ?_ rfl⟩;simp(disch:=omega) only[kd,gN,Tryd.results4])
 have hr0:r=false:=by
  cases r with
  |false=>rfl
  |true=>exact absurd (hr.1 rfl).1 hF
 subst hr0;have hI:=qX M false (by simp[hF]);refine eJ Tryd.func4 rfl (by kernel_rfl) ?_;rw[Tryd.ntmps4];refine aE fun _ K=>?_;simp only[kd,bT,ae];apply K
 refine bj (ju [⟨1,_,_,_,hI⟩] [] fun _ K=>?_);simp only[kd,bT,aa];apply K;refine ib rfl ?_;refine aE fun _ K=>?_;simp only[kd];apply K
 (refine dQ ⟨.inr rfl,rfl,aI rfl ?_ rfl⟩;simp(disch:=omega) only[kd,gN,Tryd.results4])
section
open Go.ChangeShapes Go.WideShapes Go.ChangeAt Go.WideMaps Go.WideElems Go.RowKit
theorem IN : Tryd.prog.globalNamed "quadform/minkowski.conditions" = some 0 := by kernel_rfl
theorem IZ:(Tryd.prog.globals[0]?).map (·.type)=some 63:=by kernel_rfl
abbrev uk : List (String × DataW Unit) := [("quadform/minkowski.conditions", Rows.laid_quadform_minkowski_conditions)]
theorem tN {W:World} (h:laidMetH Tryd.prog uk W):rD 0 63 iy W:=by
 rw[MakeChecks.laidMetH_plain _ _ _ (by kernel_rfl)]at h;obtain⟨ps,⟨g0,t0,cs0,f0,p0,q0,hg0,ht0,hv0,hd0,_,_⟩,_,_⟩:=h;obtain rfl:=Option.some.inj (IN.symm.trans hg0);obtain rfl:=Option.some.inj (IZ.symm.trans ht0);obtain⟨xs,m1,rfl,hx1,hlen,hn3,hel⟩:=DataW.trod_array Tryd.underlying63 hd0;have c3:Tryd.prog.cellsOf 3=1:=by kernel_rfl
 have c4:Tryd.prog.cellsOf 63=4:=by kernel_rfl
 rw[c4]at hlen;have hcell: ∀i,i<4-> ∃k:Int,cs0[i]?=some (.int .i64 k)/\(xs[i]?).map (·.1)=some (.lit (.int .i64 k)):=fun i hi=>by
  have h1:=hel i hi;rw[c3,Nat.mul_one]at h1;obtain⟨y,hy⟩: ∃y,xs[i]?=some y:=⟨xs[i]'(by omega),List.getElem?_eq_getElem (by omega)⟩;rw[hy]at h1;obtain⟨k,e1,e2,_⟩:=DataW.trod_int Tryd.underlying3 h1;refine⟨k,?_,by rw[hy,e2];rfl⟩;have h2:=congrArg (fun l=>l[0]?) e1;simp only[List.getElem?_take,List.getElem?_drop,Nat.add_zero]at h2;simpa using h2
 have hx:xs.map (·.1)=[.lit (.int .i64 1),.lit (.int .i64 3),.lit (.int .i64 9),.lit (.int .i64 27)]:=by
  simp only[Prod.mk.injEq,Rows.laid_quadform_minkowski_conditions,DataW.agg.injEq]at hx1;exact hx1.1.symm
 have hat: ∀(i:Nat) (k:Int),i<4->(xs.map (·.1))[i]?=some (.lit (.int .i64 k))->W.cell? ⟨0,i,none⟩=some (.int .i64 k):=fun i k hi hk=>by
  obtain⟨k',h1,h2⟩:=hcell i hi;rw[ax,h2]at hk;have:k'=k:=by simpa using hk
  subst this;rw[World.var?_cell hg0 hv0 i,h1]
 rw[hx]at hat;have a0:=hat 0 1 (by omega) rfl;have a1:=hat 1 3 (by omega) rfl;have a2:=hat 2 9 (by omega) rfl;have a3:=hat 3 27 (by omega) rfl;refine⟨lD a0,fun j x hx=>?_⟩
 match j,hx with
 |0,hx=>simp at hx;exact⟨_,hx.symm,a0,rfl⟩
 |1,hx=>simp at hx;exact⟨_,hx.symm,a1,rfl⟩
 |2,hx=>simp at hx;exact⟨_,hx.symm,a2,rfl⟩
 |3,hx=>simp at hx;exact⟨_,hx.symm,a3,rfl⟩
 |j+4,hx=>simp at hx
theorem BA (os:Os) (args:Array Value):laidMetH Tryd.prog uk ((World.doorLaid Tryd.prog 400 os).forCall (fun _ _=>0) ⟨#[],args,[]⟩).memory:=
 laidMetH_of_parts3 (fuel:=8) (laidMet_of_run' 8 (by kernel_rfl) (by kernel_rfl)) (by kernel_rfl) (by kernel_rfl)
theorem CallG.law {P:Program} {b:Nat} {ty:TypeId} {f:FuncId} {args:List TV} {cs:List PV} {r:Bool} (h:CallG P b ty f args cs ⟨[],.raw (.bool r)⟩) {w:World} (hb:rD b ty cs w) {vs:Array Value} (hvs:vs.size=args.length)
  (ha: ∀(j:Nat) t,args[j]?=some t-> ∃v:Value,vs[j]?=some v/\t.rel (fun _ _=>none) (fun _=>[]) (fun _=>False) w v):Calls P f vs w fun e w'=>e= .returned (.bool r)/\Ext w w':=
 ((h.2 w hb).2 (fun _=>False) vs (fun b h=>h.elim) hvs ha).mono fun e w' ⟨v,h1,ρ,h2,h3⟩=>⟨by rw[h1,n4 h3],ug h2.keep⟩
end
section
variable {n:Nat}
theorem Gs {x:Int} {A:Nat} (h:x*x<=(A:Int)*(A:Int)): -(A:Int)<=x/\x<=(A:Int):=by
 have h1:x.natAbs*x.natAbs<=A*A:=by
  have e:((x.natAbs*x.natAbs:Nat):Int)=x*x:=Int.natAbs_mul_self;have:((x.natAbs*x.natAbs:Nat):Int)<=((A*A:Nat):Int):=by rw[e,Int.natCast_mul];exact h
  exact Int.ofNat_le.1 this
 have h2:x.natAbs<=A:=by
  rcases Nat.lt_or_ge A x.natAbs with hl|hl
  ·have:=Nat.mul_lt_mul'' hl hl;omega
  exact hl
 omega
theorem wV {h:FF} (hn1:1<=n) (hn:n<=4) (hr:dZ h n) {x:Nat->Int} (hx:nrm n h x<=262144): ∀j,j<n-> -549755813888<=x j/\x j<=549755813888:=fun j hj=>by
 have h1:=Bw (B:=262144) hr.pd hj (fun a b ha hb=>by have:=mE hn1 (by omega) hr a ha b hb;omega) x hx;have h2:(n*262144)^(n-1)<=1048576^3:=by
  have:n*262144<=1048576:=by omega
  exact Nat.le_trans (Nat.pow_le_pow_left this _) (Nat.pow_le_pow_right (by omega) (by omega))
 have h3:(((n*262144)^(n-1):Nat):Int)<=1152921504606846976:=by
  have e:1048576^3=1152921504606846976:=by decide
  rw[e]at h2;omega
 refine Gs (A:=549755813888) ?_;generalize(((n*262144)^(n-1):Nat):Int)=q at*
 omega
theorem oW {h B:FF} {W:Int} (hp:PD h n) (hB:InB2 n h W B) {a b:Nat} (ha:a<n) (hb:b<n) (A:Nat) (hW:W<=(A:Int)): -(A:Int)<=dP n h B a b/\dP n h B a b<=(A:Int):=by
 refine Gs ?_;have h1:=hp.schwarz (B a) (B b);have h2:=hB.nr a ha;have h3:=hB.nr b hb;have h4:=(hp.pos (B a)).1;have h5:=(hp.pos (B b)).1;unfold nrm at h2 h3;unfold dP;have h6:BF n h (B a) (B a)*BF n h (B b) (B b)<=(A:Int)*(A:Int):=Int.mul_le_mul (by omega) (by omega) h5 (by omega);omega
theorem InB2.one {h:FF} (hn1:1<=n) (hn:n<=8) (hr:dZ h n):InB2 n h 262144 (fun a b=>if a=b then 1 else 0):=by
 refine⟨fun a ha=>?_,?_⟩
 ·have e:(fun b=>if a=b then(1:Int)else 0)=eC a:=by funext b;unfold eC;by_cases h:a=b<;>simp[h,eq_comm]<;>omega
  show nrm n h (fun b=>if a=b then 1 else 0)<=_;rw[e,gu ha];have:=mE hn1 hn hr a ha a ha;omega
 have e:trF (fun a b=>if a=b then(1:Int)else 0)=fun i j=>if i=j then 1 else 0:=by
  funext i j;unfold trF;by_cases h:i=j<;>simp[h,eq_comm]<;>omega
 rw[e,G4];rfl
theorem InB2.sg {h B:FF} {W:Int} (g:FF) (hB:InB2 n h W B):InB2 n h W (tb g B):=by
 refine⟨fun a ha=>?_,?_⟩
 ·have:=hB.nr a ha;have e:nrm n h (tb g B a)=nrm n h (B a):=by
   have h1:dP n h (tb g B) a a=dP n h B a a:=by
    rw[BP];unfold DQ;rcases jl g a with e|e<;>rw[e]<;>omega
   exact h1
  rw[e];exact this
 have h1:=C1 (g:=g) (B:=B) n (Nat.le_refl n);rw[<- hB.dt,<- h1]
 congr 1
 exact gh fun i j _ hj=>by show jj g j*B j i=if j<n then _ else _;rw[if_pos hj]
theorem uD {h:FF} (hn1:1<=n) (hn:n<=4) (hr:dZ h n): ∃R,RchB n h (fun a b=>if a=b then 1 else 0) R/\InB2 n h 262144 R/\InB2 n h 262144 (tb (dP n h R) R)/\dw (dP n h (tb (dP n h R) R)) n:=by
 have h1:=InB2.one hn1 (by omega) hr;obtain⟨R,hR⟩:=uW hr.pd _ _ rfl h1;obtain⟨e1,e2,e3⟩:=pD hR h1;exact⟨R,hR,e1,e1.sg _,uC e2 e3⟩
theorem InB2.pd {h B:FF} {W:Int} (hp:PD h n) (hB:InB2 n h W B):PD (dP n h B) n:=by
 rw[se];exact hp.cng (by have:=hB.dt;omega)
end
/-! Inner products of rows. -/
theorem nX {n:Nat} {h:FF} (hn1:1<=n) (hn:n<=8) (hr:dZ h n):bD (bL n n h)=true:=
 (eK _).2 ((tj hn1).2 ⟨rfl,hn,hr⟩)
theorem iC {n:Nat} {X:Nat->Int} (hx: ∀j,j<n-> -1099511627776<=X j/\X j<=1099511627776):FitB n (bz n X)=true:=by
 refine fo.2 ⟨bA n X,?_⟩;unfold AF;rw[List.all_eq_true];intro c hc;obtain⟨j,hj⟩:=List.mem_iff_getElem?.1 hc;have hjn:j<n:=by
  have:=(List.getElem?_eq_some_iff.1 hj).1;rwa[bA]at this
 rw[aX _ hjn]at hj;injection hj with hj
 have:=hx j hjn;rw[hj]at this;simp[this]
theorem mU (n:Nat) (X:Nat->Int):(bz n X).take n=bz n X:=List.take_of_length_le (by rw[bA];omega)
theorem xY {n:Nat} {h:FF} {X Y:Nat->Int} (hn1:1<=n) (hn:n<=8) (hr:dZ h n) (hx: ∀j,j<n-> -1099511627776<=X j/\X j<=1099511627776) (hy: ∀j,j<n-> -1099511627776<=Y j/\Y j<=1099511627776):
  eg (bz n X) (cg (bL n n h) (bz n Y)) (bz n X).length=BF n h X Y:=by
 have e:=wA (x:=bz n X) (y:=bz n Y) (nX hn1 hn hr) (by rw[aU];exact iC hx) (by rw[aU];exact iC hy);rw[e,aU];exact dK (fun i j hi hj=>nO h hi hj) (fun i hi=>rm X hi) (fun i hi=>rm Y hi)
theorem oY {n:Nat} {h:FF} {X Y:Nat->Int} (hn1:1<=n) (hn:n<=8) (hr:dZ h n) (hx: ∀j,j<n-> -1099511627776<=X j/\X j<=1099511627776) (hy: ∀j,j<n-> -1099511627776<=Y j/\Y j<=1099511627776)
  (hb: -4611686018427387904<=BF n h X Y/\BF n h X Y<=4611686018427387904):zw (bL n n h) (bz n X) (bz n Y)=Au (BF n h X Y) true:=by
 unfold zw;rw[if_pos ⟨by unfold iu;rw[nX hn1 hn hr,aU,iC hx];rfl,by rw[aU];exact iC hy⟩,xY hn1 hn hr hx hy];exact if_pos hb
def GdR (n:Nat) (h:FF) (x:Nat->Int):Prop:=nrm n h x<=262144
theorem GdR.co {n:Nat} {h:FF} {x:Nat->Int} (hn1:1<=n) (hn:n<=4) (hr:dZ h n) (hg:GdR n h x): ∀j,j<n-> -1099511627776<=x j/\x j<=1099511627776:=fun j hj=>by
 have:=wV hn1 hn hr hg j hj;omega
theorem GdR.nn {n:Nat} {h:FF} {x:Nat->Int} (hr:dZ h n):0<=nrm n h x:=(hr.pd.pos x).1
abbrev fQ (M:List (List Int)):List PV:=[.sl (ls (fR fI) M)]
theorem GY {n:Nat} {h:FF} {X Y:Nat->Int} (hn1:1<=n) (hn:n<=4) (hr:dZ h n) (hx:GdR n h X) (hy:GdR n h Y):
  CallC Tryd.prog 31 [mq (bz n X),mq (bz n Y),.one (.p (.ptr (fQ (bL n n h))))] ⟨[],.raw (.int .i64 (nrm n h X-nrm n h Y))⟩:=by
 have a0:0<=nrm n h X:=GdR.nn hr;have b0:0<=nrm n h Y:=GdR.nn hr;have a1:nrm n h X<=262144:=hx;have b1:nrm n h Y<=262144:=hy;have c1:=yn (bL n n h) (bz n X);have c2:=yn (bL n n h) (bz n Y);rw[oY hn1 (by omega) hr (hx.co hn1 hn hr) (hx.co hn1 hn hr) (by show _<=nrm n h X/\nrm n h X<=_;omega),show BF n h X X=nrm n h X from rfl]at c1;rw[oY hn1 (by omega) hr (hy.co hn1 hn hr) (hy.co hn1 hn hr) (by show _<=nrm n h Y/\nrm n h Y<=_;omega),show BF n h Y Y=nrm n h Y from rfl]at c2;refine aN Tryd.func31 rfl (by kernel_rfl) ?_;rw[Tryd.ntmps31];refine aB fun _ K=>?_;simp only[kd,mq,aa,ae];apply K
 refine aK [⟨2,_,_,_,c1⟩] [] fun _ K=>?_;simp only[kd,bT,mq,Au,aa];apply K
 refine aK [⟨2,_,_,_,c2⟩] [] fun _ K=>?_;simp only[kd,bT,mq,Au,aa];apply K
 refine aB fun _ K=>?_;simp(disch:=omega) only[kd,gN,aa,aS];apply K
 (refine aM ⟨.inr rfl,aI rfl ?_ rfl⟩;simp(disch:=omega) only[kd,gN,Tryd.results31])
/-! Rows that change their places. -/
theorem Ce {d n p k:Nat} (g:FF) (hp:p<n) (hk:k<n) (hne:k≠p) (r:Nat):(dD d n n (swp p k g))[r]?=
  (((⟨23,1,((gL d (ae n n)).set p [.sl d (k+1) 0 n]).set k [.sl d (p+1) 0 n]⟩::(bL n n g).map gK:List OObj))[sw (p+1) (k+1) r]?).map (tc d (p+1) (k+1)):=by
 cases r with
 |zero=>
  rw[show sw (p+1) (k+1) 0=0 by simp[sw]];simp only[List.getElem?_cons_zero,Option.map_some,tc]
  congr 2
  apply List.ext_getElem?;intro i;rw[ax,List.getElem?_set,List.getElem?_set,List.length_set,bQ,List.length_replicate];by_cases hi:i<n
  ·rw[ck d n hi];by_cases h1:k=i
   ·subst h1;simp[hi,jU,nt,sw]
   by_cases h2:p=i
   ·subst h2;simp[h1,hi,jU,nt,sw]
   have h1': ¬i=k:=fun e=>h1 e.symm
   have h2': ¬i=p:=fun e=>h2 e.symm
   simp[h1,h2,h1',h2',jU,nt,sw]
  have h1: ¬k=i:=by omega
  have h2: ¬p=i:=by omega
  rw[if_neg h1,if_neg h2,List.getElem?_eq_none (by rw[bQ,List.length_replicate];omega)];rfl
 |succ r=>
  have hsw:sw (p+1) (k+1) (r+1)=sw p k r+1:=by
   unfold sw;by_cases h1:r=p
   ·simp[h1]
   by_cases h2:r=k
   ·simp[h1,h2,hne]
   simp[h1,h2]
  have hO: ∀l:List Int,tc d (p+1) (k+1) (gK l)=gK l:=fun l=>by
   simp only[tc,gK,lc,List.map_map]
   congr 1
  rw[hsw,List.getElem?_cons_succ,List.getElem?_cons_succ,ax,ax];by_cases hr:r<n
  ·have hs:sw p k r<n:=by unfold sw;split<;>(try split)<;>omega
   rw[bq _ _ hr,bq _ _ hs];simp only[Option.map_some,hO]
   congr 3
   unfold swp sw;by_cases h1:r=p
   ·simp[h1]
   by_cases h2:r=k
   ·simp[h1,h2,hne]
   simp[h1,h2]
  have hs: ¬sw p k r<n:=by unfold sw;rw[if_neg (by omega),if_neg (by omega)];exact hr
  rw[List.getElem?_eq_none (by rw[aU];omega),List.getElem?_eq_none (by rw[aU];omega)];rfl
theorem iF (n c:Nat) (f:FF): ∀o∈dD 0 n c f,selfO 0 o:=fun o ho e he x hx=>by
 simp only[List.mem_cons,List.mem_map]at ho;rcases ho with rfl|⟨r,_,rfl⟩
 ·obtain⟨k,hk⟩:=List.mem_iff_getElem?.1 he;have hkn:k<n:=by
   have:=(List.getElem?_eq_some_iff.1 hk).1;simpa[bQ] using this
  simp only at hk;rw[ck 0 c hkn]at hk;injection hk with hk
  subst hk;simp at hx;subst hx;rfl
 exact cf (df _ _ _) e he x hx
theorem o8 (n c:Nat) (f g:FF): ∃o o',(dD 0 n c f)[0]?=some o/\(dD 0 n c g)[0]?=some o'/\o.elems.length=n/\o'.elems.length=n/\o'.es=o.es:=
 ⟨_,_,rfl,rfl,by simp[bQ],by simp[bQ],rfl⟩
structure Jk (n:Nat) (h:FF) (i:Nat) (T:FF) where
 j:Nat
 C:Nat->Nat->Int
 hj:j<=i
 he:insB (nrm n h) C j=T
 ok: ∀a,a<n->GdR n h (C a)
structure Js (n:Nat) where
 i:Nat
 h1:1<=i
 hi:i<=n
theorem zx (n:Nat) (h B:FF) (hn1:1<=n) (hn:n<=4) (hr:dZ h n) (hB: ∀a,a<n->GdR n h (B a)):
  ng Tryd.prog 56 [jk,.raw (.int .i64 0),.raw (.int .i64 (n:Int)),.fn 31 [.p (.ptr (fQ (bL n n h)))]] 0 n (dD 0 n n B) (dD 0 n n (iL (nrm n h) B n)) .undef:=by
 have hall:=fun i hi=>me (n:=n) (nrm n h) (Q:=GdR n h) (B:=B) hB i hi
 refine oF Tryd.func56 rfl (by kernel_rfl) (by simp) hn1 (o8 _ _ _ _) rfl ?_;rw[Tryd.ntmps56];refine dF.weak (aC (tm:=(.one (.sl 0 0 0 n)::.raw (.int .i64 0)::rN n::.fn 31 [.p (.ptr (fQ (bL n n h)))]::j16 (j16 (j16 (jk::[]))))) (l:=[(0,dD 0 n n B)]) ⟨rfl,trivial⟩ (by simp[wk,ae])) ?_;refine aG (by kernel_rfl) fun _ K=>?_;simp(disch:=omega) only[kd,gN,aa,aS];apply K
 refine eH (G:=Js n) (fun g=>⟨(.one (.sl 0 0 0 n)::.raw (.int .i64 0)::rN n::.fn 31 [.p (.ptr (fQ (bL n n h)))]::j4 (.raw (.int .i64 (g.i:Int))::j16 (j16 (j4 (j4 (j4 ([]))))))),Hm [(0,dD 0 n n (iL (nrm n h) B g.i))]⟩) (fun g=>n-g.i) ⟨1,by omega,hn1⟩ ?_ ?_
 ·refine aC ⟨rfl,trivial⟩ ?_;simp[wk]
 rintro⟨i,hi1,hi⟩;simp only;by_cases hm:i<n
 ·refine bI (aG (by kernel_rfl) fun _ K=>?_);simp(disch:=omega) only[kd,gN,aa];apply K;refine ic rfl (d7 ?_);refine bI (dC ?_);refine aG (by kernel_rfl) fun _ K=>?_;simp only[kd];apply K
  refine eH (G:=Jk n h i (iL (nrm n h) B (i+1))) (fun g=>⟨(.one (.sl 0 0 0 n)::.raw (.int .i64 0)::rN n::.fn 31 [.p (.ptr (fQ (bL n n h)))]::j4 (.raw (.int .i64 (i:Int))::rN g.j::j16 (j16 (j4 (j4 (jk::jk::jk::[])))))),Hm [(0,dD 0 n n g.C)]⟩) (fun g=>g.j) ⟨i,iL (nrm n h) B i,Nat.le_refl _,rfl,hall i (by omega)⟩ ?_ ?_
  ·refine aC ⟨rfl,trivial⟩ ?_;simp[wk]
  rintro⟨j,C,hj,he,ok⟩;simp only;cases j with
  |zero=>
   have he:C=iL (nrm n h) B (i+1):=he;refine bI (ef bE (by kernel_rfl) (by kernel_rfl) fun _ K=>?_);simp(disch:=omega) only[kd,gN,aa];apply K;refine fJ rfl (d6 ?_);show dF _ _ _ _ _;refine ch (by kernel_rfl) fun _ K=>?_;simp(disch:=omega) only[kd,gN,aa,aS];apply K
   refine⟨⟨i+1,by omega,by omega⟩,by simp only;omega,aC ⟨?_,trivial⟩ ?_⟩
   ·rw[<- he];rfl
   simp[wk]
  |succ j=>
   have hC:=GY hn1 hn hr (ok (j+1) (by omega)) (ok j (by omega));have e0:IntKind.i64.wrap (((j+1:Nat):Int)-1)=(j:Int):=by rw[show((j+1:Nat):Int)-1=(j:Int) by omega];exact aS (by omega) (by omega)
   have g1:=ck (n:=n) (i:=j+1) 0 n (by omega);have g2:=ck (n:=n) (i:=j) 0 n (by omega);have r1:=dM n C (i:=j+1) (show j+1<n by omega);have r2:=dM n C (i:=j) (show j<n by omega);have gt:(0:Int)<((j+1:Nat):Int):=by omega
   by_cases hlt:nrm n h (C (j+1))<nrm n h (C j)
   ·rw[insB,if_pos hlt]at he;have hneg:nrm n h (C (j+1))-nrm n h (C j)<0:=by omega
    refine bI (jZ bE [⟨14,_,_,_,hC⟩] [] (by kernel_rfl) (by kernel_rfl) fun _ K=>?_);simp(disch:=omega) only[kd,gN,mq,aa,gt,g1,e0,g2,r1,mU,r2,hneg];apply K;refine ic rfl (d7 ?_);refine bI (dC ?_);have hsw:=Ce (d:=0) C (show j+1<n by omega) (show j<n by omega) (by omega);have g4:((gL 0 (ae n n)).set (j+1) [.sl 0 (j+1) 0 n])[j]?=some [.sl 0 (j+1) 0 n]:=by
     rw[List.getElem?_set_ne (by omega),g2]
    refine vL bE (by kernel_rfl) (by kernel_rfl) fun _ K=>?_;simp(disch:=omega) only[kd,gN,aa,e0,g2,g1,g4,ah,reduceCtorEq];apply K
    show dF _ _ _ _ _;refine dF.weak ((xB 0 (j+1+1) (j+1) (dD 0 n n (swp (j+1) j C)) hsw).trans (aC (tm:=(.one (.sl 0 0 0 n)::.raw (.int .i64 0)::rN n::.fn 31 [.p (.ptr (fQ (bL n n h)))]::j4 (.raw (.int .i64 (i:Int))::.raw (.int .i64 ((j+1:Nat):Int))::j16 (j16 (j4 (j4 (jk::jk::jk::[]))))))) (l:=[(0,dD 0 n n (swp (j+1) j C))]) ⟨rfl,trivial⟩ (by simp[wk,FN,jU,nt,sw]))) ?_;refine ch (by kernel_rfl) fun _ K=>?_;simp only[kd,aa,e0];apply K
    refine⟨⟨j,swp (j+1) j C,by omega,he,fun a ha=>?_⟩,by simp only;omega,aC ⟨rfl,trivial⟩ ?_⟩
    ·unfold swp;split
     ·exact ok j (by omega)
     split
     ·exact ok (j+1) (by omega)
     exact ok a ha
    simp[wk]
   rw[insB,if_neg hlt]at he;have hneg: ¬nrm n h (C (j+1))-nrm n h (C j)<0:=by omega
   refine bI (jZ bE [⟨14,_,_,_,hC⟩] [] (by kernel_rfl) (by kernel_rfl) fun _ K=>?_);simp(disch:=omega) only[kd,gN,mq,aa,gt,g1,e0,g2,r1,mU,r2,hneg];apply K;refine fJ rfl (d6 ?_);show dF _ _ _ _ _;refine ch (by kernel_rfl) fun _ K=>?_;simp(disch:=omega) only[kd,gN,aa,aS];apply K
   refine⟨⟨i+1,by omega,by omega⟩,by simp only;omega,aC ⟨?_,trivial⟩ ?_⟩
   ·rw[<- he];rfl
   simp[wk]
 have hin:i=n:=by omega
 subst hin;refine bI (aG (by kernel_rfl) fun _ K=>?_);simp(disch:=omega) only[kd,gN,aa];apply K;refine fJ rfl (d6 ?_);refine⟨.inl rfl,_,bX.refl _,rfl,kL _,rfl⟩
theorem Db (n:Nat) (h B:FF) (hn1:1<=n) (hn:n<=4) (hr:dZ h n) (hB: ∀a,a<n->GdR n h (B a)):
  ng Tryd.prog 47 [jk,.raw (.int .i64 (n:Int)),.fn 31 [.p (.ptr (fQ (bL n n h)))]] 0 n (dD 0 n n B) (dD 0 n n (iL (nrm n h) B n)) .undef:=by
 have hI:=zx n h B hn1 hn hr hB;refine oF Tryd.func47 rfl (by kernel_rfl) (by simp) hn1 (o8 _ _ _ _) rfl ?_;rw[Tryd.ntmps47];refine dF.weak (aC (tm:=(.one (.sl 0 0 0 n)::rN n::.fn 31 [.p (.ptr (fQ (bL n n h)))]::j16 (j16 (j16 (j4 (j4 (j4 ([])))))))) (l:=[(0,dD 0 n n B)]) ⟨rfl,trivial⟩ (by simp[wk,ae])) ?_;refine aG (by kernel_rfl) fun _ K=>?_;simp only[kd];apply K
 refine aG (by kernel_rfl) fun _ K=>?_;simp only[kd,aa];apply K
 refine bI (eH (G:=Unit) (fun _=>⟨(.one (.sl 0 0 0 n)::rN n::.fn 31 [.p (.ptr (fQ (bL n n h)))]::jk::jk::jk::.raw (.int .i64 20)::.raw (.int .i64 0)::.raw (.int .i64 20)::j16 (j16 (j16 (j4 (jk::jk::[]))))),Hm [(0,dD 0 n n B)]⟩) (fun _=>0) () ?_ ?_)
 ·refine aC ⟨rfl,trivial⟩ ?_;simp[wk]
 intro _;refine bI (aG (by kernel_rfl) fun _ K=>?_);simp(disch:=omega) only[kd,gN,aa];apply K;refine fJ rfl (d6 ?_);show dF _ _ _ _ _;refine vM 4 hI 0 [] [] (by kernel_rfl) (by simp[wk]) hn1 rfl (iF _ _ _) (iF _ _ _) (by decide) (by simp[wk]) (by decide) fun K hK=>?_
 simp only[kd,aa];apply hK;clear hK K;refine⟨⟨rfl,(fj 0 0 _ _ _).symm⟩,by simp,?_⟩;intro K hK;simp only[kd,aa,GX,cwD,kM];apply hK;clear hK K;refine eH (G:=Unit) (fun _=>⟨(.one (.sl 0 0 0 n)::rN n::.fn 31 [.p (.ptr (fQ (bL n n h)))]::jk::jk::jk::.raw (.int .i64 20)::j16 (j16 (j16 (j4 (j4 ([])))))),Hm [(0,dD 0 n n (iL (nrm n h) B n))]⟩) (fun _=>0) () ?_ ?_
 ·refine aC ⟨fj 0 0 n n _,trivial⟩ ?_;simp[wk]
 intro _;refine bI (aG (by kernel_rfl) fun _ K=>?_);simp(disch:=omega) only[kd,gN,aa];apply K;refine fJ rfl (d6 ?_);refine⟨.inl rfl,_,bX.refl _,rfl,kL _,rfl⟩
theorem s5 (n:Nat) (h B:FF) (hn1:1<=n) (hn:n<=4) (hr:dZ h n) (hB: ∀a,a<n->GdR n h (B a)):
  ng Tryd.prog 30 [jk,.fn 31 [.p (.ptr (fQ (bL n n h)))]] 0 n (dD 0 n n B) (dD 0 n n (iL (nrm n h) B n)) .undef:=by
 have hI:=Db n h B hn1 hn hr hB;refine oF Tryd.func30 rfl (by kernel_rfl) (by simp) hn1 (o8 _ _ _ _) rfl ?_;rw[Tryd.ntmps30];refine dF.weak (aC (tm:=(.one (.sl 0 0 0 n)::.fn 31 [.p (.ptr (fQ (bL n n h)))]::j4 (jk::jk::jk::[]))) (l:=[(0,dD 0 n n B)]) ⟨rfl,trivial⟩ (by simp[wk,ae])) ?_;refine ov 4 hI 0 [] [] (by kernel_rfl) (by simp[wk]) hn1 rfl (iF _ _ _) (iF _ _ _) (by decide) (by simp[wk]) (by decide) fun K hK=>?_
 simp only[kd,aa];apply hK;clear hK K;refine⟨⟨rfl,(fj 0 0 _ _ _).symm⟩,by simp,?_⟩;intro K hK;simp only[kd,aa,GX,cwD,kM];apply hK;clear hK K;refine⟨.inl rfl,_,aC (tm:=(.one (.sl 0 0 0 n)::j4 (j4 ([])))) (l:=[(0,dD 0 n n (iL (nrm n h) B n))]) ⟨fj 0 0 n n _,trivial⟩ (by simp[wk]),rfl,kL _,rfl⟩
open Classical in
noncomputable def xX (M l:List (List Int)):CallRes:=if I4 M l then⟨dD 0 l.length l.length (vG M l),sf l.length true⟩else⟨dD 0 0 0 (vG M l),sf 0 false⟩
theorem BQ {M l:List (List Int)} (h: ¬I4 M l):xX M l=⟨dD 0 0 0 (vG M l),sf 0 false⟩:=if_neg h
theorem qR {M l:List (List Int)} (h:I4 M l):xX M l=⟨dD 0 l.length l.length (vG M l),sf l.length true⟩:=if_pos h
theorem wU {fn:Func} {c:Nat} {F:FF} {b:Bool} {s:AS} (hd:s.H 500=[]) (hk:s.tmps[4]?=some (.raw (.slice none 0 0)))
  (hres:nK Tryd.prog ⟨s.tmps.set 4 (.one (.sl 500 0 0 0)),aO s.H 500 [⟨23,1,[]⟩]⟩ fn.results.toList=some (.tup [(false,[.sl 500 0 0 0]),(false,[.p (.raw (.bool b))])])):
  ∃s',bX s s'/\kq Tryd.prog fn ⟨dD 0 0 c F,sf 0 b⟩ s':=
 ⟨_,tn (k:=4) (d:=500) 23 1 (by omega) hd hk,_,500,hres,vh (by simp[gE,cL]) (by decide),by simp only[aY];rfl,rfl⟩
theorem E9 (M l:List (List Int)) (hl:l.length<=16):CallC Tryd.prog 16 [bT M,bT l] (xX M l):=by
 have hno:=BQ (M:=M) (l:=l);have hyes:=qR (M:=M) (l:=l);generalize xX M l=r at*
 have cR:=lT M;cases hred:bD M with
 |false=>
  rw[hred]at cR;rw[hno (fun h=>by rw[h.1]at hred;cases hred)];refine aN Tryd.func16 rfl (by kernel_rfl) ?_;rw[Tryd.ntmps16];refine aB fun _ K=>?_;simp only[kd,bT,aa,ae];apply K
  refine aD (aK [⟨1,_,_,_,cR⟩] [] fun _ K=>?_);simp only[kd,bT,aa];apply K;refine bs rfl ?_;refine aB fun _ K=>?_;simp only[kd];apply K
  refine aM ⟨.inr rfl,wU rfl rfl ?_⟩;simp(disch:=omega) only[kd,gN,Tryd.results16]
 |true=>
  rw[hred]at cR;obtain⟨n,hn⟩: ∃n,n=l.length:=⟨_,rfl⟩;rw[<- hn]at hyes hl;have hln:=hn.symm;refine aN Tryd.func16 rfl (by kernel_rfl) ?_;rw[Tryd.ntmps16];refine aB fun _ K=>?_;simp only[kd,bT,aa,ae];apply K
  refine aD (aK [⟨1,_,_,_,cR⟩] [] fun _ K=>?_);simp only[kd,bT,aa];apply K;refine a6 rfl (aT ?_);show bH _ _ _ _;refine aD (aB fun _ K=>?_);simp only[kd,aa,hln];apply K;refine bx (G:=Jj n (fun a=>FitB M.length (l.getD a [])=true)) (fun g=>⟨(bT M::bT l::j16 (jk::bT l::rN n::rN g.i::j16 (j16 (j16 (j16 (jk::jk::jk::[])))))),Hm []⟩) (fun g=>n-g.i) ⟨0,by omega,fun a h=>by omega⟩ ?_ ?_
  ·refine aC trivial ?_;simp[wk]
  rintro⟨i,hi,hg⟩;simp only;by_cases hm:i<n
  ·have hli:=sd (l:=l) (i:=i) (by omega);have cF:=E8 M.length (l.getD i []);cases hf:FitB M.length (l.getD i [])with
   |true=>
    rw[hf]at cF;have hg': ∀a,a<i+1->FitB M.length (l.getD a [])=true:=fun a ha=>by
     by_cases h:a=i
     ·subst h;exact hf
     exact hg a (by omega)
    generalize l.getD i []=xi at*
    refine aB fun _ K=>?_;simp(disch:=omega) only[kd,gN,bT];apply K
    refine b8 rfl ?_;refine aD (aH ?_);refine aB fun _ K=>?_;simp(disch:=omega) only[kd,gN,aa,hli,fR];apply K
    refine aK [⟨3,_,_,_,cF⟩] [] fun _ K=>?_;simp only[kd,mq,aa];apply K
    refine a6 rfl (aT ?_);show bH _ _ _ _;refine aR fun _ K=>?_;simp(disch:=omega) only[kd,gN,aS];apply K
    refine⟨⟨i+1,by omega,hg'⟩,by simp only;omega,aC trivial ?_⟩;simp[wk]
   |false=>
    rw[hf]at cF;have hr:=hno (fun h=>by rw[(h.2 i (by omega) i (by omega)).x]at hf;cases hf);generalize l.getD i []=xi at*
    refine aB fun _ K=>?_;simp(disch:=omega) only[kd,gN,bT];apply K
    refine b8 rfl ?_;refine aD (aH ?_);refine aB fun _ K=>?_;simp(disch:=omega) only[kd,gN,aa,hli,fR];apply K
    refine aK [⟨3,_,_,_,cF⟩] [] fun _ K=>?_;simp only[kd,mq,aa];apply K
    refine bs rfl ?_;refine aB fun _ K=>?_;simp only[kd];apply K
    rw[hr];refine aM ⟨.inr rfl,wU rfl rfl ?_⟩;simp(disch:=omega) only[kd,gN,Tryd.results16]
  have hin:i=n:=by omega
  subst hin;refine aB fun _ K=>?_;simp(disch:=omega) only[kd,gN,bT];apply K
  refine cn rfl ?_;show bH _ _ _ _;have hfit: ∀a,a<i->FitB M.length (l.getD a [])=true:=hg;clear hg;obtain⟨n,hni⟩: ∃n,n=i:=⟨_,rfl⟩;subst hni;refine aB fun _ K=>?_;simp(disch:=omega) only[kd,gN,aa,hln];apply K
  refine aD (aB fun _ K=>?_);simp only[kd,aa,hln];apply K;refine bx (G:=rE n) (fun g=>⟨(bT M::bT l::j4 (jk::jk::.one (.sl 33 0 0 n)::j16 (j4 (j4 (jk::jk::rN n::rN g.i::j16 (j16 (j16 (j4 ([]))))))))),Hm [(33,kI 33 n n g.i (fun _ _=>0))]⟩) (fun g=>n-g.i) ⟨0,by omega⟩ ?_ ?_
  ·refine aC ⟨?_,trivial⟩ ?_
   ·show[_]=_;simp[kI,gL,bL]
   simp[wk]
  rintro⟨i,hi⟩;simp only;by_cases hm:i<n
  ·have k1:=BV (i:=i) (n:=n) 33 n hm;have k2:=wD (i:=i) (n:=n) 33 n hi;have k3:=aU i n (fun _ _=>(0:Int));have k4:=x4 (i:=i) (n:=n) (c:=n) 33 (fun _ _=>(0:Int)) hm (fun j hj=>rfl);refine aB fun _ K=>?_;simp(disch:=omega) only[kd,gN,bT];apply K
   refine b8 rfl ?_;refine aD (aH ?_);refine aB fun _ K=>?_;simp only[kd];apply K
   refine aR fun _ K=>?_;simp(disch:=omega) only[kd,gN,aa,hln,ab,k1,ah,List.length_replicate,List.all_replicate,k3,k4,Nat.reduceBEq];apply K
   show bH _ _ _ _;refine aR fun _ K=>?_;simp(disch:=omega) only[kd,gN,aS];apply K
   refine⟨⟨i+1,by omega⟩,by simp only;omega,aC ⟨?_,trivial⟩ ?_⟩
   ·first|exact k4|rfl
   simp[wk]
  have hin:i=n:=by omega
  subst hin;refine aB fun _ K=>?_;simp(disch:=omega) only[kd,gN,bT];apply K
  refine cn rfl ?_;show bH _ _ _ _;rw[wC];obtain⟨n,hni⟩: ∃n,n=i:=⟨_,rfl⟩;subst hni;refine aD (aB fun _ K=>?_);simp only[kd,aa,hln];apply K;refine bx (G:=Jj n (fun a=> ∀b,b<=a->PG M l a b)) (fun g=>⟨(bT M::bT l::j4 (jk::jk::.one (.sl 33 0 0 n)::j16 (j16 (j4 (jk::bT l::rN n::rN g.i::j16 (j16 (j4 (j4 ([]))))))))),Hm [(33,dD 33 n n (ww (vG M l) g.i 0))]⟩) (fun g=>n-g.i) ⟨0,by omega,fun a h=>by omega⟩ ?_ ?_
  ·refine aC ⟨?_,trivial⟩ ?_
   ·show _::_=_::_;rw[ct fun a b _ _=>(BO (vG M l) a b).symm]
   simp[wk]
  rintro⟨i,hi,hg⟩;simp only;by_cases hm:i<n
  ·have hli:=sd (l:=l) (i:=i) (by omega);have cA:=Cu M (l.getD i []) hred (hfit i hm);refine aB fun _ K=>?_;simp(disch:=omega) only[kd,gN,bT];apply K
   refine b8 rfl ?_;refine aD (aH ?_);refine aB fun _ K=>?_;simp(disch:=omega) only[kd,gN,aa,hli,fR];apply K
   refine aK [⟨2,_,_,_,cA⟩] [] fun _ K=>?_;simp only[kd,bT,mq,aa];apply K
   refine aB fun _ K=>?_;simp(disch:=omega) only[kd,gN,aa,aS];apply K
   refine bx (G:=Jj (i+1) (fun b=>PG M l i b)) (fun g=>⟨(bT M::bT l::j4 (jk::jk::.one (.sl 33 0 0 n)::jk::rN i::jk::mq (cg M (l.getD i []))::j16 (j16 (jk::bT l::rN n::rN i::j4 (j4 (.raw (.int .i64 ((i+1:Nat):Int))::rN g.i::j16 (j4 (j4 (j4 (jk::jk::[])))))))))),Hm [(33,dD 33 n n (ww (vG M l) i g.i))]⟩) (fun g=>i+1-g.i) ⟨0,by omega,fun a h=>by omega⟩ ?_ ?_
   ·refine aC ⟨rfl,trivial⟩ ?_;simp[wk]
   rintro⟨j,hj,hh⟩;simp only;by_cases hm2:j<i+1
   ·have hlj:=sd (l:=l) (i:=j) (by omega);have cD:=Hw M (l.getD j []) (l.getD i []) hred (hfit j (by omega)) (hfit i hm);have hsy:=DF (i:=i) (j:=j) hred (hfit i hm) (hfit j (by omega));rw[show eg (l.getD j []) (cg M (l.getD i [])) (l.getD j []).length=vG M l j i from rfl,<- hsy]at cD;by_cases hp:PG M l i j
    ·rw[show It (vG M l i j)=Au (vG M l i j) true from if_pos ⟨hp.lo,hp.hi⟩]at cD;have g1:=ck (n:=n) (i:=i) 33 n hm;have g2:=ck (n:=n) (i:=j) 33 n (by omega);have g3:=dM (n:=n) n (ww (vG M l) i j) (i:=i) hm;have g4:=aX (ww (vG M l) i j i) (show j<n by omega);have g5:=dM (n:=n) n (upd (ww (vG M l) i j) i j (vG M l i j)) (i:=j) (show j<n by omega);have g6:=aX (upd (ww (vG M l) i j) i j (vG M l i j) j) hm;refine aB fun _ K=>?_;simp(disch:=omega) only[kd,gN,bT,mq];apply K
     refine b8 rfl ?_;refine aD (aH ?_);refine aB fun _ K=>?_;simp only[kd];apply K
     refine aK [⟨5,_,_,_,cD⟩] [] fun _ K=>?_;simp(disch:=omega) only[kd,gN,mq,Au,aa,hlj,fR];apply K
     refine aD (aB fun _ K=>?_);simp only[kd];apply K;refine a6 rfl (aT ?_);show bH _ _ _ _;refine ot bE (by kernel_rfl) fun _ K=>?_;simp(disch:=omega) only[kd,gN,aa,g1,g2,g3,g4,o9,g5,g6];apply K
     show bH _ _ _ _;refine aR fun _ K=>?_;simp(disch:=omega) only[kd,gN,aS];apply K
     refine⟨⟨j+1,by omega,fun a ha=>?_⟩,by simp only;omega,aC ⟨?_,trivial⟩ ?_⟩
     ·by_cases h:a=j
      ·subst h;exact hp
      exact hh a (by omega)
     ·show _::_=_::_;rw[ct fun a b _ _=>BN (f:=vG M l) rfl hsy.symm a b]
     simp[wk]
    have hw:It (vG M l i j)=Au 0 false:=if_neg fun h=>hp ⟨hfit i hm,hfit j (by omega),h.1,h.2⟩
    rw[hw]at cD;have hr:=hno (fun h=>hp (h.2 i (by omega) j (by omega)));refine aB fun _ K=>?_;simp(disch:=omega) only[kd,gN,bT,mq];apply K
    refine b8 rfl ?_;refine aD (aH ?_);refine aB fun _ K=>?_;simp only[kd];apply K
    refine aK [⟨5,_,_,_,cD⟩] [] fun _ K=>?_;simp(disch:=omega) only[kd,gN,mq,Au,aa,hlj,fR];apply K
    refine aD (aB fun _ K=>?_);simp only[kd];apply K;refine bs rfl ?_;refine aB fun _ K=>?_;simp only[kd];apply K
    rw[hr];refine aM ⟨.inr rfl,wU rfl rfl ?_⟩;simp(disch:=omega) only[kd,gN,Tryd.results16]
   have hjc:j=i+1:=by omega
   subst hjc;refine aB fun _ K=>?_;simp(disch:=omega) only[kd,gN,bT,mq];apply K
   refine cn rfl ?_;show bH _ _ _ _;refine aR fun _ K=>?_;simp(disch:=omega) only[kd,gN,aS];apply K
   refine⟨⟨i+1,by omega,fun a ha b hb=>?_⟩,by simp only;omega,aC ⟨?_,trivial⟩ ?_⟩
   ·by_cases h:a=i
    ·subst h;exact hh b (by omega)
    exact hg a (by omega) b hb
   ·show _::_=_::_;rw[ct fun a b _ _=>EA (vG M l) i a b]
   simp[wk]
  have hin:i=n:=by omega
  subst hin;have hr:=hyes ⟨hred,fun a ha b hb=>by
   by_cases h:b<=a
   ·exact hg a (by omega) b h
   have h1:=hg b (by omega) a (by omega);have hs:=DF (i:=a) (j:=b) hred (hfit a (by omega)) (hfit b (by omega));exact⟨h1.y,h1.x,by rw[hs];exact h1.lo,by rw[hs];exact h1.hi⟩⟩
  refine aB fun _ K=>?_;simp(disch:=omega) only[kd,gN,bT];apply K
  refine cn rfl ?_;show bH _ _ _ _;have e:dD 33 i i (ww (vG M l) i 0)=dD 33 i i (vG M l):=by
   show _::_=_::_;rw[ct fun a b ha hb=>Ez ha hb]
  rw[e];rw[hr];refine aB fun _ K=>?_;simp only[kd,aa];apply K
  refine aM ⟨.inr rfl,HT (d:=33) rfl ?_ (by decide)⟩;simp(disch:=omega) only[kd,gN,Tryd.results16]
end Go.Proofs.YtfgeomlagfomgaaDoor
