/-
  Part 22 of a proof (walks and plain facts).
-/
import Derived.Test.YtfgeomlagfomgaaGreatDoorQ20
import Derived.ProofKit
import Derived.LaidMore
import Derived.LaidLaws
import Derived.LaidHandle
import Derived.OpenShut
set_option linter.all false
set_option maxRecDepth 100000
set_option maxHeartbeats 64000000
open Nat renaming reduceAdd → aa
open Nat renaming reduceEqDiff → ab
open Nat renaming le_refl → ac
open List renaming replicate → ae
namespace Go.Proofs.YtfgeomlagfomgaaGreatDoor
open Go.RowKit
abbrev iA:List PV:=[.raw (.int .i64 1),.raw (.int .i64 3),.raw (.int .i64 9),.raw (.int .i64 27)]
theorem Ph (i code j:Nat): -1<=lQ i code j/\lQ i code j<=1:=by
 unfold lQ;split
 ·exact E5 code j
 split<;>omega
theorem OL {i:Nat}:a4 (Qg (fun _=>0) i 1)=a4 (eC i):=qc fun j _=>by unfold Qg eC;rfl
theorem JA {c c':Nat->Int} {b:Bool} (h:b=true↔ ∀j,j<4->c j=c' j):Dt (a4 c) (a4 c')=some b:=by
 have e:Dt (a4 c) (a4 c')=some (decide (c 0=c' 0)&&(decide (c 1=c' 1)&&(decide (c 2=c' 2)&&(decide (c 3=c' 3)&&true)))):=rfl;rw[e]
 congr 1
 apply Bool.eq_iff_iff.2;rw[h];simp only[Bool.and_eq_true,decide_eq_true_eq,and_true];constructor
 ·rintro⟨h0,h1,h2,h3⟩ j hj
  match j,hj with
  |0,_=>exact h0
  |1,_=>exact h1
  |2,_=>exact h2
  |3,_=>exact h3
 exact fun h=>⟨h 0 (by omega),h 1 (by omega),h 2 (by omega),h 3 (by omega)⟩
theorem C6:packT Tryz.prog 3 [.raw (.int .i64 1),.raw (.int .i64 3),.raw (.int .i64 9),.raw (.int .i64 27)]=some (.raw (.int .i64 1)):=by kernel_rfl
theorem C7:packT Tryz.prog 3 [.raw (.int .i64 3),.raw (.int .i64 9),.raw (.int .i64 27)]=some (.raw (.int .i64 3)):=by kernel_rfl
theorem C8:packT Tryz.prog 3 [.raw (.int .i64 9),.raw (.int .i64 27)]=some (.raw (.int .i64 9)):=by kernel_rfl
theorem C9:packT Tryz.prog 3 [.raw (.int .i64 27)]=some (.raw (.int .i64 27)):=by kernel_rfl
theorem GG {i:Nat} (h:i<4):packT Tryz.prog 3 ((iA.drop i).map AV.p)=some (.raw (.int .i64 ((3^i:Nat):Int))):=by
 match i,h with
 |0,_=>exact C6
 |1,_=>exact C7
 |2,_=>exact C8
 |3,_=>exact C9
structure Rw (i:Nat) where
 k:Nat
 hk:k<=3^i
theorem BC (n:Nat) (f:FF) (i:Nat) (hi:i<n) (hn:n<=4) (hf: ∀i j,i<n->j<n-> -1125899906842624<=f i j/\f i j<=1125899906842624):
  CallG Tryz.prog 0 138 77 [bx (bs n n f),.raw (.int .i64 (i:Int))] iA ⟨[],tC (kV n f i (3^i))⟩:=by
 have hi4:i<4:=by omega
 have h3i:3^i<=27:=Nat.le_trans (Nat.pow_le_pow_right (by omega) (show i<=3 by omega)) (by decide);have a1:=yE (fun _=>0) 1 hi4;rw[OL]at a1;refine dB Tryz.func77 rfl (by kernel_rfl) ?_;rw[Tryz.ntmps77];refine aN fun _ K=>?_;simp(disch:=omega) only[kd,km,bx,aa,ae];apply K
 refine aN fun _ K=>?_;simp(disch:=omega) only[kd,km,aa,ab];apply K
 refine d7.weak (aE (tm:=(bx (bs n n f)::rN i::jk::jk::.one (.ptr 4 0 0 0)::.one (.ptr 5 0 0 0)::j16 (j4 (jk::jk::jk::[])))) (l:=[(4,CE fun _=>0),(5,CE fun _=>0)]) ⟨rfl,rfl,trivial⟩ (by simp[wk])) ?_;refine aN fun _ K=>?_;simp(disch:=omega) only[kd,km,aa,bx,hi4,ab,eu,Nat.reduceLeDiff,a1];apply K
 refine bH (Gr 2 i 12 (.raw (.int .i64 ((3^i:Nat):Int))) [] [] (by simp[wk]) (by decide) fun K hK=>?_);simp(disch:=omega) only[kd,km,hi4];apply hK;clear hK K;refine⟨⟨⟨_,_,_,rfl,rfl,rfl,rfl,by simp[AS.ev],?_⟩⟩,by simp,?_⟩
 ·exact GG hi4
 intro K hK;simp only[kd,aa];apply hK;clear hK K;refine fA (G:=Rw i) (fun g=>⟨(bx (bs n n f)::rN i::jk::jk::.one (.ptr 4 0 0 0)::.one (.ptr 5 0 0 0)::j4 (jk::jk::.raw (.int .i64 ((3^i:Nat):Int))::rN g.k::j4 (j4 (j4 (jk::jk::jk::[]))))),Hm [(4,CE fun _=>0),(5,CE (kV n f i g.k))]⟩) (fun _=>iA) (fun g=>3^i-g.k) ⟨0,Nat.zero_le _⟩ ?_ rfl ?_
 ·refine aE ⟨rfl,rfl,trivial⟩ ?_;simp[wk]
 rintro⟨k,hk⟩;simp only;by_cases hm:k<3^i
 ·have hC:=zl i k hi4 (by omega);have hN1:=Fy n f (lQ i k) (by omega) hn hf (Ph i k);have hN2:=Fy n f (kV n f i k) (by omega) hn hf (wu n f i k).2.2;refine aN fun _ K=>?_;simp(disch:=omega) only[kd,km,bx];apply K
  refine iG rfl ?_;refine bH (cK ?_);refine aN fun _ K=>?_;simp only[kd];apply K
  refine dL [⟨2,_,_,_,hC⟩] [] fun _ K=>?_;simp(disch:=omega) only[kd,km,tC,aa,k9,rJ,ab,eu,f4];apply K
  by_cases hlt:nrm n f (lQ i k)<nrm n f (kV n f i k)
  ·have es:kV n f i (k+1)=lQ i k:=by rw[kV,if_pos hlt]
   refine gX be [⟨2,_,_,_,hN1⟩,⟨5,_,_,_,hN2⟩] [] (by kernel_rfl) fun _ K=>?_;simp(disch:=omega) only[kd,km,bx,tC,aa,ab,eu,ig,f4,Nat.reduceBEq];apply K
   refine fO rfl ?_;refine dn fun _ K=>?_;simp(disch:=omega) only[kd,km,ab,eu,ig,f4,nf];apply K
   show d7 _ _ _ _ _ _ _;refine dn fun _ K=>?_;simp(disch:=omega) only[kd,km,aP];apply K
   refine⟨⟨k+1,by omega⟩,by simp only;omega,aE ⟨rfl,?_,trivial⟩ ?_,rfl⟩
   ·show _=CE (kV n f i (k+1));rw[es];rfl
   simp[wk]
  have es:kV n f i (k+1)=kV n f i k:=by rw[kV,if_neg hlt]
  refine gX be [⟨2,_,_,_,hN1⟩,⟨5,_,_,_,hN2⟩] [] (by kernel_rfl) fun _ K=>?_;simp(disch:=omega) only[kd,km,bx,tC,aa,ab,eu,ig,f4,Nat.reduceBEq];apply K
  refine eh rfl (eK ?_);show d7 _ _ _ _ _ _ _;refine dn fun _ K=>?_;simp(disch:=omega) only[kd,km,aP];apply K
  refine⟨⟨k+1,by omega⟩,by simp only;omega,aE ⟨rfl,?_,trivial⟩ ?_,rfl⟩
  ·show _=CE (kV n f i (k+1));rw[es];rfl
  simp[wk]
 have hke:k=3^i:=by omega
 subst hke;refine aN fun _ K=>?_;simp(disch:=omega) only[kd,km,bx];apply K
 refine kH rfl ?_;show d7 _ _ _ _ _ _ _;refine aN fun _ K=>?_;simp(disch:=omega) only[kd,km,ab,eu,ig,f4,nf];apply K
 (refine dj ⟨.inr rfl,rfl,aJ rfl ?_ rfl⟩;simp(disch:=omega) only[kd,km,Tryz.results77,ab,eu,ig,tC])
noncomputable def sN (n:Nat) (f:FF):TV:=match xg n f with
 |some i=> .tup [(false,[.p (.raw (.int .i64 (i:Int)))]),(true,a4 (kV n f i (3^i))),(false,[.p (.raw (.bool true))])]
 |none=> .tup [(false,[.p (.raw (.int .i64 0))]),(true,a4 fun _=>0),(false,[.p (.raw (.bool false))])]
theorem Gb {n:Nat} {f:FF} (i:Nat) (hi:i<n) (h: ∀a,a<i-> ¬VioP n f a) (hv:VioP n f i): ∀m j,j<=i->i<j+m->xh n f m j=some i
 |0,j,h1,h2=>by omega
 |m+1,j,h1,h2=>by
  rw[xh];by_cases e:j=i
  ·subst e;rw[if_pos hv]
  rw[if_neg (h j (by omega))];exact Gb i hi h hv m (j+1) (by omega) (by omega)
theorem Gc {n:Nat} {f:FF} (h: ∀a,a<n-> ¬VioP n f a): ∀m j,j+m<=n->xh n f m j=none
 |0,_,_=>rfl
 |m+1,j,h2=>by rw[xh,if_neg (h j (by omega))];exact Gc h m (j+1) (by omega)
structure Sh (n:Nat) (f:FF) where
 i:Nat
 hi:i<=n
 ok: ∀a,a<i-> ¬VioP n f a
theorem s6 (n:Nat) (f:FF) (hn1:1<=n) (hn:n<=4) (hf: ∀i j,i<n->j<n-> -1125899906842624<=f i j/\f i j<=1125899906842624):
  CallG Tryz.prog 0 138 36 [bx (bs n n f)] iA ⟨[],sN n f⟩:=by
 have hml:=aW n n f;refine dB Tryz.func36 rfl (by kernel_rfl) ?_;rw[Tryz.ntmps36];refine aN fun _ K=>?_;simp(disch:=omega) only[kd,km,aa,bx,ae];apply K
 refine bH (aN fun _ K=>?_);simp only[kd,aa,hml];apply K;refine fA (G:=Sh n f) (fun g=>⟨(bx (bs n n f)::jk::.raw (.int .i64 0)::.one (.ptr 3 0 0 0)::.raw (.bool false)::j4 (.raw (.int .i64 (n:Int))::rN g.i::j4 (j4 (j4 (jk::jk::[]))))),Hm [(3,CE fun _=>0)]⟩) (fun _=>iA) (fun g=>n-g.i) ⟨0,by omega,fun a ha=>by omega⟩ ?_ rfl ?_
 ·refine aE ⟨rfl,trivial⟩ ?_;simp[wk]
 rintro⟨i,hi,ok⟩;simp only;by_cases hm:i<n
 ·have hi4:i<4:=by omega
  have hS:=BC n f i hm hn hf;have a1:=yE (fun _=>0) 1 hi4;rw[OL]at a1;have h4:(∀j,j<4->kV n f i (3^i) j=eC i j)↔ ¬VioP n f i:=by
   rw[<- NI hm];refine⟨fun h j hj=>h j (by omega),fun h j hj=>?_⟩;rcases Nat.lt_trichotomy j i with h1|h1|h1
   ·exact h j (by omega)
   ·exact h j (by omega)
   rw[(wu n f i (3^i)).2.1 j h1];unfold eC;rw[if_neg (by omega)]
  refine aN fun _ K=>?_;simp(disch:=omega) only[kd,km,bx];apply K
  refine iG rfl ?_;refine bH (cK ?_);refine aN fun _ K=>?_;simp only[kd];apply K
  refine aN fun _ K=>?_;simp(disch:=omega) only[kd,km,aa,ab];apply K
  refine d7.weak (aE (tm:=(bx (bs n n f)::jk::.raw (.int .i64 0)::.one (.ptr 3 0 0 0)::.raw (.bool false)::rN i::.one (.ptr 6 0 0 0)::jk::jk::rN n::rN i::j4 (j4 (j4 (jk::jk::[]))))) (l:=[(3,CE fun _=>0),(6,CE fun _=>0)]) ⟨rfl,rfl,trivial⟩ (by simp[wk])) ?_;refine aN fun _ K=>?_;simp(disch:=omega) only[kd,km,aa,bx,hi4,ab,eu,Nat.reduceLeDiff,a1];apply K
  refine bz [⟨2,_,_,_,hS,rfl⟩] [] [] fun _ K=>?_;simp(disch:=omega) only[kd,km,bx,tC,da.a,aa,k9,rJ,ab,eu,f4];apply K
  by_cases hv:VioP n f i
  ·have hE:Dt (a4 (kV n f i (3^i))) (a4 (eC i))=some false:=JA ⟨fun h=>(by cases h),fun h=>absurd (h4.1 h) (by simpa using hv)⟩;have hvi:xg n f=some i:=Gb i hm ok hv n 0 (by omega) (by omega);have eT:sN n f= .tup [(false,[.p (.raw (.int .i64 (i:Int)))]),(true,a4 (kV n f i (3^i))),(false,[.p (.raw (.bool true))])]:=by unfold sN;rw[hvi]
   rw[eT];refine aN fun _ K=>?_;simp(disch:=omega) only[kd,km,aa,ab,eu,ig,hE];apply K
   refine fO rfl ?_;refine l4 be (by kernel_rfl) fun _ K=>?_;simp(disch:=omega) only[kd,km,aa,ab,eu,ig,f4,nf];apply K
   (refine dj ⟨.inr rfl,rfl,aJ rfl ?_ rfl⟩;simp(disch:=omega) only[kd,km,Tryz.results36,ab,eu,ig])
  have hE:Dt (a4 (kV n f i (3^i))) (a4 (eC i))=some true:=JA ⟨fun _=>h4.2 hv,fun _=>rfl⟩;refine aN fun _ K=>?_;simp(disch:=omega) only[kd,km,aa,ab,eu,ig,hE];apply K
  refine eh rfl (eK ?_);show d7 _ _ _ _ _ _ _;refine dn fun _ K=>?_;simp(disch:=omega) only[kd,km,aP];apply K
  refine⟨⟨i+1,by omega,fun a ha=>?_⟩,by simp only;omega,aE ⟨rfl,trivial⟩ ?_,rfl⟩
  ·by_cases e:a=i
   ·subst e;exact hv
   exact ok a (by omega)
  simp[wk]
 have hin:i=n:=by omega
 have hvi:xg n f=none:=Gc (fun a ha=>ok a (by omega)) n 0 (by omega);have eT:sN n f= .tup [(false,[.p (.raw (.int .i64 0))]),(true,a4 fun _=>0),(false,[.p (.raw (.bool false))])]:=by unfold sN;rw[hvi]
 rw[eT];subst hin;refine aN fun _ K=>?_;simp(disch:=omega) only[kd,km,bx];apply K
 refine kH rfl ?_;show d7 _ _ _ _ _ _ _;refine aN fun _ K=>?_;simp(disch:=omega) only[kd,km,aa,eu,nf];apply K
 (refine dj ⟨.inr rfl,rfl,aJ rfl ?_ rfl⟩;simp(disch:=omega) only[kd,km,Tryz.results36,aa,a4])
def Ax (M:List (List Int)):Prop:=Au M/\MinkP (ent M) M.length
structure Sa (M:List (List Int)) where
 i:Nat
 hi:i+1<=M.length
 ok: ∀a,a<i->ent M a a<=ent M (a+1) (a+1)/\0<=ent M a (a+1)
theorem mu (M:List (List Int)) (r:Bool) (hr:r=true↔Ax M):
  CallG Tryz.prog 0 138 14 [bx M] iA ⟨[],.raw (.bool r)⟩:=by
 by_cases hF:Au M
 ·have hI:=xS M true (by simp[hF]);have hn1:=hF.1.1;have hn4:=hF.1.2;have eM:M=bs M.length M.length (ent M):=zo (M:=M) (m:=M.length) fun q hq=>(hF.2.1 q hq).1
  have hV:=s6 M.length (ent M) hn1 hn4 fun i j hi hj=>hF.entB hi hj
  rw[<- eM]at hV;refine dB Tryz.func14 rfl (by kernel_rfl) ?_;rw[Tryz.ntmps14];refine aN fun _ K=>?_;simp only[kd,bx,ae];apply K
  refine bH (dL [⟨1,_,_,_,hI⟩] [] fun _ K=>?_);simp only[kd,bx,aa];apply K;refine eh rfl (eK ?_);show d7 _ _ _ _ _ _ _;refine bH (aN fun _ K=>?_);simp(disch:=omega) only[kd,km,aa,aP];apply K;have en:(M.length:Int)-1=((M.length-1:Nat):Int):=by omega
  refine fA (G:=Sa M) (fun g=>⟨(bx M::jk::.raw (.bool false)::j4 (j4 (jk::.raw (.int .i64 ((M.length-1:Nat):Int))::rN g.i::j16 (j16 (j4 (jk::jk::jk::[])))))),Hm []⟩) (fun _=>iA) (fun g=>M.length-g.i) ⟨0,hn1,fun a ha=>by omega⟩ ?_ rfl ?_
  ·refine aE trivial ?_;simp[wk,en]
  rintro⟨i,hi,ok⟩;simp only;by_cases hm:i+1<M.length
  ·have m1:=bC M.length (ent M) (show i<M.length by omega);have m2:=bC M.length (ent M) hm;rw[<- eM]at m1 m2;have c1:=aU (ent M i) (show i<M.length by omega);have c2:=aU (ent M (i+1)) hm;have c3:=aU (ent M i) hm;have e1:((i:Int)+1).toNat=i+1:=by omega
   by_cases hd:ent M (i+1) (i+1)<ent M i i
   ·have hr0:r=false:=by
     cases r with
     |false=>rfl
     |true=>have:=((hr.1 rfl).2.1 i hm).1;omega
    subst hr0;refine aN fun _ K=>?_;simp(disch:=omega) only[kd,km,bx];apply K
    refine iG rfl ?_;refine bH (cK ?_);refine aN fun _ K=>?_;simp only[kd];apply K
    refine l4 be (by kernel_rfl) fun _ K=>?_;simp(disch:=omega) only[kd,km,aa,m1,fR,c1,aP,e1,m2,c2,reduceCtorEq];apply K
    refine fO rfl ?_;refine aN fun _ K=>?_;simp only[kd];apply K
    (refine dj ⟨.inr rfl,rfl,aJ rfl ?_ rfl⟩;simp(disch:=omega) only[kd,km,Tryz.results14])
   by_cases hs:ent M i (i+1)<0
   ·have hr0:r=false:=by
     cases r with
     |false=>rfl
     |true=>have:=((hr.1 rfl).2.1 i hm).2;omega
    subst hr0;refine aN fun _ K=>?_;simp(disch:=omega) only[kd,km,bx];apply K
    refine iG rfl ?_;refine bH (cK ?_);refine aN fun _ K=>?_;simp only[kd];apply K
    refine l4 be (by kernel_rfl) fun _ K=>?_;simp(disch:=omega) only[kd,km,aa,m1,fR,c1,aP,e1,m2,c2,c3];apply K
    refine fO rfl ?_;refine aN fun _ K=>?_;simp only[kd];apply K
    (refine dj ⟨.inr rfl,rfl,aJ rfl ?_ rfl⟩;simp(disch:=omega) only[kd,km,Tryz.results14])
   refine aN fun _ K=>?_;simp(disch:=omega) only[kd,km,bx];apply K
   refine iG rfl ?_;refine bH (cK ?_);refine aN fun _ K=>?_;simp only[kd];apply K
   refine l4 be (by kernel_rfl) fun _ K=>?_;simp(disch:=omega) only[kd,km,aa,m1,fR,c1,aP,e1,m2,c2,c3];apply K
   refine eh rfl (eK ?_);show d7 _ _ _ _ _ _ _;refine dn fun _ K=>?_;simp(disch:=omega) only[kd,km,aP];apply K
   refine⟨⟨i+1,by omega,fun a ha=>?_⟩,by simp only;omega,aE trivial ?_,rfl⟩
   ·by_cases e:a=i
    ·subst e;exact⟨by omega,by omega⟩
    exact ok a (by omega)
   simp[wk]
  refine aN fun _ K=>?_;simp(disch:=omega) only[kd,km,bx];apply K
  refine kH rfl ?_;show d7 _ _ _ _ _ _ _;cases hv:xg M.length (ent M)with
  |none=>
   have hr1:r=true:=hr.2 ⟨hF,fun a ha=>ok a (by omega),fun a ha=>sM _ 0 hv a (by omega) (by omega)⟩;subst hr1;have eT:sN M.length (ent M)= .tup [(false,[.p (.raw (.int .i64 0))]),(true,a4 fun _=>0),(false,[.p (.raw (.bool false))])]:=by unfold sN;rw[hv]
   rw[eT]at hV;refine bz [⟨1,_,_,_,hV,rfl⟩] [] [] fun _ K=>?_;simp(disch:=omega) only[kd,km,bx,da.a,aa,k9,rJ,eu,f4];apply K
   refine aN fun _ K=>?_;simp only[kd,aa];apply K
   (refine dj ⟨.inr rfl,rfl,aJ rfl ?_ rfl⟩;simp(disch:=omega) only[kd,km,Tryz.results14])
  |some k=>
   obtain⟨_,k1,k2,_⟩:=jL _ 0 k hv;have hr0:r=false:=by
    cases r with
    |false=>rfl
    |true=>exact absurd k2 ((hr.1 rfl).2.2 k (by omega))
   subst hr0;have eT:sN M.length (ent M)= .tup [(false,[.p (.raw (.int .i64 (k:Int)))]),(true,a4 (kV M.length (ent M) k (3^k))),(false,[.p (.raw (.bool true))])]:=by unfold sN;rw[hv]
   rw[eT]at hV;refine bz [⟨1,_,_,_,hV,rfl⟩] [] [] fun _ K=>?_;simp(disch:=omega) only[kd,km,bx,da.a,aa,k9,rJ,eu,f4];apply K
   refine aN fun _ K=>?_;simp only[kd,aa];apply K
   (refine dj ⟨.inr rfl,rfl,aJ rfl ?_ rfl⟩;simp(disch:=omega) only[kd,km,Tryz.results14])
 have hr0:r=false:=by
  cases r with
  |false=>rfl
  |true=>exact absurd (hr.1 rfl).1 hF
 subst hr0;have hI:=xS M false (by simp[hF]);refine dB Tryz.func14 rfl (by kernel_rfl) ?_;rw[Tryz.ntmps14];refine aN fun _ K=>?_;simp only[kd,bx,ae];apply K
 refine bH (dL [⟨1,_,_,_,hI⟩] [] fun _ K=>?_);simp only[kd,bx,aa];apply K;refine fO rfl ?_;refine aN fun _ K=>?_;simp only[kd];apply K
 (refine dj ⟨.inr rfl,rfl,aJ rfl ?_ rfl⟩;simp(disch:=omega) only[kd,km,Tryz.results14])
section
open Go.ChangeShapes Go.WideShapes Go.ChangeAt Go.WideMaps Go.WideElems Go.RowKit
theorem QO : Tryz.prog.globalNamed "quadform/minkowski.conditions" = some 0 := by kernel_rfl
theorem Q3:(Tryz.prog.globals[0]?).map (·.type)=some 138:=by kernel_rfl
abbrev nE : List (String × DataW Unit) := [("quadform/minkowski.conditions", Rows.laid_quadform_minkowski_conditions)]
theorem np {W:World} (h:laidMetH Tryz.prog nE W):yv 0 138 iA W:=by
 rw[MakeChecks.laidMetH_plain _ _ _ (by kernel_rfl)]at h;obtain⟨ps,⟨g0,t0,cs0,f0,p0,q0,hg0,ht0,hv0,hd0,_,_⟩,_,_⟩:=h;obtain rfl:=Option.some.inj (QO.symm.trans hg0);obtain rfl:=Option.some.inj (Q3.symm.trans ht0);obtain⟨xs,m1,rfl,hx1,hlen,hn3,hel⟩:=DataW.trod_array Tryz.underlying138 hd0;have c3:Tryz.prog.cellsOf 3=1:=by kernel_rfl
 have c4:Tryz.prog.cellsOf 138=4:=by kernel_rfl
 rw[c4]at hlen;have hcell: ∀i,i<4-> ∃k:Int,cs0[i]?=some (.int .i64 k)/\(xs[i]?).map (·.1)=some (.lit (.int .i64 k)):=fun i hi=>by
  have h1:=hel i hi;rw[c3,Nat.mul_one]at h1;obtain⟨y,hy⟩: ∃y,xs[i]?=some y:=⟨xs[i]'(by omega),List.getElem?_eq_getElem (by omega)⟩;rw[hy]at h1;obtain⟨k,e1,e2,_⟩:=DataW.trod_int Tryz.underlying3 h1;refine⟨k,?_,by rw[hy,e2];rfl⟩;have h2:=congrArg (fun l=>l[0]?) e1;simp only[List.getElem?_take,List.getElem?_drop,Nat.add_zero]at h2;simpa using h2
 have hx:xs.map (·.1)=[.lit (.int .i64 1),.lit (.int .i64 3),.lit (.int .i64 9),.lit (.int .i64 27)]:=by
  simp only[Prod.mk.injEq,Rows.laid_quadform_minkowski_conditions,DataW.agg.injEq]at hx1;exact hx1.1.symm
 have hat: ∀(i:Nat) (k:Int),i<4->(xs.map (·.1))[i]?=some (.lit (.int .i64 k))->W.cell? ⟨0,i,none⟩=some (.int .i64 k):=fun i k hi hk=>by
  obtain⟨k',h1,h2⟩:=hcell i hi;rw[List.getElem?_map,h2]at hk;have:k'=k:=by simpa using hk
  subst this;rw[World.var?_cell hg0 hv0 i,h1]
 rw[hx]at hat;have a0:=hat 0 1 (by omega) rfl;have a1:=hat 1 3 (by omega) rfl;have a2:=hat 2 9 (by omega) rfl;have a3:=hat 3 27 (by omega) rfl;refine⟨ou a0,fun j x hx=>?_⟩
 match j,hx with
 |0,hx=>simp at hx;exact⟨_,hx.symm,a0,rfl⟩
 |1,hx=>simp at hx;exact⟨_,hx.symm,a1,rfl⟩
 |2,hx=>simp at hx;exact⟨_,hx.symm,a2,rfl⟩
 |3,hx=>simp at hx;exact⟨_,hx.symm,a3,rfl⟩
 |j+4,hx=>simp at hx
theorem uW (os:Os) (args:Array Value):laidMetH Tryz.prog nE ((World.doorLaid Tryz.prog 400 os).forCall (fun _ _=>0) ⟨#[],args,[]⟩).memory:=
 laidMetH_of_parts3 (fuel:=8) (laidMet_of_run' 8 (by kernel_rfl) (by kernel_rfl)) (by kernel_rfl) (by kernel_rfl)
theorem CallG.law {P:Program} {b:Nat} {ty:TypeId} {f:FuncId} {args:List TV} {cs:List PV} {r:Bool} (h:CallG P b ty f args cs ⟨[],.raw (.bool r)⟩) {w:World} (hb:yv b ty cs w) {vs:Array Value} (hvs:vs.size=args.length)
  (ha: ∀(j:Nat) t,args[j]?=some t-> ∃v:Value,vs[j]?=some v/\t.rel (fun _ _=>none) (fun _=>[]) (fun _=>False) w v):Calls P f vs w fun e w'=>e= .returned (.bool r)/\Ext w w':=
 ((h.2 w hb).2 (fun _=>False) vs (fun b h=>h.elim) hvs ha).mono fun e w' ⟨v,h1,ρ,h2,h3⟩=>⟨by rw[h1,mC h3],Bp h2.keep⟩
end
section
variable {n:Nat}
theorem OJ {x:Int} {A:Nat} (h:x*x<=(A:Int)*(A:Int)): -(A:Int)<=x/\x<=(A:Int):=by
 have h1:x.natAbs*x.natAbs<=A*A:=by
  have e:((x.natAbs*x.natAbs:Nat):Int)=x*x:=Int.natAbs_mul_self;have:((x.natAbs*x.natAbs:Nat):Int)<=((A*A:Nat):Int):=by rw[e,Int.natCast_mul];exact h
  exact Int.ofNat_le.1 this
 have h2:x.natAbs<=A:=by
  rcases Nat.lt_or_ge A x.natAbs with hl|hl
  ·have:=Nat.mul_lt_mul'' hl hl;omega
  exact hl
 omega
theorem D0 {h:FF} (hn1:1<=n) (hn:n<=4) (hr:RedR h n) {x:Nat->Int} (hx:nrm n h x<=262144): ∀j,j<n-> -549755813888<=x j/\x j<=549755813888:=fun j hj=>by
 have h1:=Jj (B:=262144) hr.pd hj (fun a b ha hb=>by have:=oC hn1 (by omega) hr a ha b hb;omega) x hx;have h2:(n*262144)^(n-1)<=1048576^3:=by
  have:n*262144<=1048576:=by omega
  exact Nat.le_trans (Nat.pow_le_pow_left this _) (Nat.pow_le_pow_right (by omega) (by omega))
 have h3:(((n*262144)^(n-1):Nat):Int)<=1152921504606846976:=by
  have e:1048576^3=1152921504606846976:=by decide
  rw[e]at h2;omega
 refine OJ (A:=549755813888) ?_;generalize(((n*262144)^(n-1):Nat):Int)=q at*
 omega
theorem qr {h B:FF} {W:Int} (hp:PD h n) (hB:InB2 n h W B) {a b:Nat} (ha:a<n) (hb:b<n) (A:Nat) (hW:W<=(A:Int)): -(A:Int)<=gmB n h B a b/\gmB n h B a b<=(A:Int):=by
 refine OJ ?_;have h1:=hp.schwarz (B a) (B b);have h2:=hB.nr a ha;have h3:=hB.nr b hb;have h4:=(hp.pos (B a)).1;have h5:=(hp.pos (B b)).1;unfold nrm at h2 h3;unfold gmB;have h6:BF n h (B a) (B a)*BF n h (B b) (B b)<=(A:Int)*(A:Int):=Int.mul_le_mul (by omega) (by omega) h5 (by omega);omega
theorem InB2.one {h:FF} (hn1:1<=n) (hn:n<=8) (hr:RedR h n):InB2 n h 262144 (fun a b=>if a=b then 1 else 0):=by
 refine⟨fun a ha=>?_,?_⟩
 ·have e:(fun b=>if a=b then(1:Int)else 0)=eC a:=by funext b;unfold eC;by_cases h:a=b<;>simp[h,eq_comm]<;>omega
  show nrm n h (fun b=>if a=b then 1 else 0)<=_;rw[e,kQ ha];have:=oC hn1 hn hr a ha a ha;omega
 have e:trF (fun a b=>if a=b then(1:Int)else 0)=fun i j=>if i=j then 1 else 0:=by
  funext i j;unfold trF;by_cases h:i=j<;>simp[h,eq_comm]<;>omega
 rw[e,Dd];rfl
theorem InB2.sg {h B:FF} {W:Int} (g:FF) (hB:InB2 n h W B):InB2 n h W (j7 g B):=by
 refine⟨fun a ha=>?_,?_⟩
 ·have:=hB.nr a ha;have e:nrm n h (j7 g B a)=nrm n h (B a):=by
   have h1:gmB n h (j7 g B) a a=gmB n h B a a:=by
    rw[JI];unfold LV;rcases mH g a with e|e<;>rw[e]<;>omega
   exact h1
  rw[e];exact this
 have h1:=K1 (g:=g) (B:=B) n (ac n);rw[<- hB.dt,<- h1]
 congr 1
 exact ew fun i j _ hj=>by show mG g j*B j i=if j<n then _ else _;rw[if_pos hj]
theorem s7 {h:FF} (hn1:1<=n) (hn:n<=4) (hr:RedR h n): ∃R,RchB n h (fun a b=>if a=b then 1 else 0) R/\InB2 n h 262144 R/\InB2 n h 262144 (j7 (gmB n h R) R)/\MinkP (gmB n h (j7 (gmB n h R) R)) n:=by
 have h1:=InB2.one hn1 (by omega) hr;obtain⟨R,hR⟩:=BY hr.pd _ _ rfl h1;obtain⟨e1,e2,e3⟩:=vV hR h1;exact⟨R,hR,e1,e1.sg _,BG e2 e3⟩
theorem InB2.pd {h B:FF} {W:Int} (hp:PD h n) (hB:InB2 n h W B):PD (gmB n h B) n:=by
 rw[qp];exact hp.cng (by have:=hB.dt;omega)
end
section
variable {n:Nat}
def Re (n:Nat) (a:FF) (i:Nat):Nat->Nat->Option Nat
 |0,_=>none
 |m+1,c=>if nrm n a (lQ i c)<a i i then some c else Re n a i m (c+1)
def Po (n:Nat) (a:FF) (i:Nat):Option Nat:=Re n a i (3^i) 0
theorem Bf {a:FF} {i:Nat}: ∀m c r,Re n a i m c=some r->c<=r/\r<c+m/\nrm n a (lQ i r)<a i i
 |0,_,_,h=>by cases h
 |m+1,c,r,h=>by
  rw[Re]at h;split at h
  ·rename_i hl;injection h with h
   subst h;exact⟨ac _,by omega,hl⟩
  obtain⟨h1,h2,h3⟩:=Bf m (c+1) r h;exact⟨by omega,by omega,h3⟩
inductive Ol where
 |swp (i:Nat)
 |rep (i c:Nat)
 |neg (i:Nat)
def FS (n:Nat) (a:FF):Nat->Nat->Option Ol
 |0,_=>none
 |m+1,i=>if 0<i/\a i i<a (i-1) (i-1)then some (.swp i)else match Po n a i with
  |some c=>some (.rep i c)
  |none=>if 0<i/\a (i-1) i<0 then some (.neg i)else FS n a m (i+1)
def OB (n:Nat) (t:FF):Ol->Nat->Nat->Int
 | .swp i=>fun r c=>if c=i then t r (i-1)else if c=i-1 then t r i else t r c
 | .rep i c=>dv t i (mV n t (lQ i c))
 | .neg i=>dv t i (fun r=> - t r i)
def Ol.i:Ol->Nat
 | .swp i=>i
 | .rep i _=>i
 | .neg i=>i
theorem tG {h t u:FF} {a b:Nat}:cngF n (cngF n h t) u a b=cngF n h (eH n t u) a b:=by
 rw[dW,dW,<- rB];refine eJ (fun _ _ _ _=>rfl) (fun i _=>?_) (fun i _=>?_)<;>
 (unfold mV;rw[dP];exact aO n fun p _=>Int.mul_comm _ _)
/-! What the operations do to the Gram matrix. -/
theorem kD {F G:Nat->Int} {i:Nat}: ∀{m},i<m->(∀a,a<m->a≠i->F a=G a)->bY G m=bY F m+(G i-F i)
 |m+1,hi,h=>by
  rw[bY,bY];by_cases e:i=m
  ·subst e;rw[aO i (F:=G) (G:=F) fun p hp=>(h p (by omega) (by omega)).symm];omega
  rw[kD (m:=m) (by omega) (fun a ha hne=>h a (by omega) hne),h m (by omega) (Ne.symm e)];omega
theorem yu (h:FF) (x y:Nat->Int):BF n h x (fun r=> - y r)= - BF n h x y:=by
 have h1:=gK (n:=n) h x y y (-2);have e:(fun i=>y i+ -2*y i)=fun r=> - y r:=by funext i;omega
 rw[e]at h1;rw[h1];omega
theorem tw (h:FF) (x y:Nat->Int):BF n h (fun r=> - x r) y= - BF n h x y:=by
 have h1:=iS (n:=n) h x x y (-2);have e:(fun i=>x i+ -2*x i)=fun r=> - x r:=by funext i;omega
 rw[e]at h1;rw[h1];omega
end
section
variable {n:Nat}
theorem Mt (h t:FF) (i a b:Nat):cngF n h (OB n t (.neg i)) a b=(if a=i then -1 else 1)*(if b=i then -1 else 1)*cngF n h t a b:=by
 have e: ∀c,(fun r=>OB n t (.neg i) r c)=if c=i then fun r=> - t r i else fun r=>t r c:=fun c=>by
  by_cases e1:c=i
  ·subst e1;funext r;simp[OB,dv]
  funext r;simp[OB,dv,e1]
 rw[dW,e,e,dW];by_cases ha:a=i
 ·subst ha;by_cases hb:b=a
  ·subst hb;simp only[if_true];rw[tw,yu];omega
  simp only[if_true,if_neg hb];rw[tw];omega
 by_cases hb:b=i
 ·subst hb;simp only[if_true,if_neg ha];rw[yu];omega
 simp only[if_neg ha,if_neg hb];omega
theorem wm {a:FF}: ∀m i op,FS n a m i=some op->i<=op.i/\op.i<i+m/\(match op with
  | .swp j=>0<j/\a j j<a (j-1) (j-1)
  | .rep j c=>c<3^j/\nrm n a (lQ j c)<a j j
  | .neg j=>0<j/\a (j-1) j<0)
 |0,_,_,h=>by cases h
 |m+1,i,op,h=>by
  rw[FS]at h;split at h
  ·rename_i hc;injection h with h
   subst h;exact⟨ac _,by show i<i+(m+1);omega,hc⟩
  split at h
  ·rename_i c hc;injection h with h
   subst h;obtain⟨_,h1,h2⟩:=Bf _ _ _ hc;exact⟨ac _,by show i<i+(m+1);omega,by omega,h2⟩
  split at h
  ·rename_i hc;injection h with h
   subst h;exact⟨ac _,by show i<i+(m+1);omega,hc⟩
  obtain⟨h1,h2,h3⟩:=wm m (i+1) op h;exact⟨by omega,by omega,h3⟩
structure OX (n:Nat) (h:FF) (W:Int) (t:FF):Prop where
 nr: ∀a,a<n->cngF n h t a a<=W
 dt:(dk t n).natAbs=1
theorem OX.op {h t:FF} {W:Int} (ht:OX n h W t) {op:Ol} (ho:FS n (cngF n h t) n 0=some op):OX n h W (OB n t op):=by
 obtain⟨_,h1,h2⟩:=wm n 0 op ho;cases op with
 |swp i=>
  have hi:i<n:=by simpa[Ol.i] using h1
  obtain⟨h0,_⟩:=h2;refine⟨fun a ha=>?_,?_⟩
  ·have e2:(fun r=>OB n t (.swp i) r a)=if a=i then fun r=>t r (i-1)else if a=i-1 then fun r=>t r i else fun r=>t r a:=by
    by_cases e1:a=i
    ·subst e1;simp[OB]
    by_cases e3:a=i-1
    ·rw[if_neg e1,if_pos e3];funext r;exact(if_neg e1).trans (if_pos e3)
    simp[OB,e1,e3]
   rw[dW,e2];split
   ·rw[<- dW];exact ht.nr _ (by omega)
   split
   ·rw[<- dW];exact ht.nr _ hi
   rw[<- dW];exact ht.nr _ ha
  have:=me (R:=t) (n:=n) (a:=i) (b:=i-1) hi (by omega) (by omega);show(dk (fun r c=>if c=i then t r (i-1)else if c=i-1 then t r i else t r c) n).natAbs=1;rw[this,Int.natAbs_neg];exact ht.dt
 |rep i c=>
  have hi:i<n:=by simpa[Ol.i] using h1
  obtain⟨_,h3⟩:=h2;refine⟨fun a ha=>?_,?_⟩
  ·by_cases e:a=i
   ·subst e;show cngF n h (dv t a (mV n t (lQ a c))) a a<=W;rw[Jh];have:=ht.nr a ha;omega
   show cngF n h (dv t i (mV n t (lQ i c))) a a<=W;rw[A1 _ e e];exact ht.nr a ha
  show(dk (dv t i (mV n t (lQ i c))) n).natAbs=1;rw[E7 hi,show lQ i c i=1 by simp[lQ],Int.one_mul];exact ht.dt
 |neg i=>
  have hi:i<n:=by simpa[Ol.i] using h1
  refine⟨fun a ha=>?_,?_⟩
  ·rw[Mt];have:=ht.nr a ha;split<;>omega
  show(dk (dv t i (fun r=> - t r i)) n).natAbs=1;rw[oA hi,Int.natAbs_neg];exact ht.dt
end
section
variable {n:Nat}
theorem M4 (f:FF) (x:Nat->Int):nrm n f (fun i=> - x i)=nrm n f x:=by
 unfold nrm;rw[tw,yu];omega
theorem qG {f:FF} (hs:SymF f n) (x y:Nat->Int) (c:Int):nrm n f (fun i=>x i+c*y i)=nrm n f x+2*c*BF n f x y+c*c*nrm n f y:=by
 unfold nrm;rw[iS,gK,gK,o9 hs y x];grind
theorem Qp {f:FF} {a b:Nat} (ha:a<n) (hb:b<n):BF n f (eC a) (eC b)=f a b:=by
 have e1: ∀(F:Nat->Int) a,a<n->bY (fun j=>F j*eC a j) n=F a:=fun F a ha=>by
  rw[iY ha (fun p _ hne=>by unfold eC;rw[if_neg hne,Int.mul_zero])];unfold eC;rw[if_pos rfl,Int.mul_one]
 unfold BF;rw[aO n (G:=fun k=>f k b*eC a k) (fun k _=>by rw[e1 (f k) b hb];exact Int.mul_comm _ _),e1 (fun k=>f k b) a ha]
theorem xT {f:FF} (hm:MinkP f n) {i:Nat} (hi:i<n) {x:Nat->Int} (hb: ∀j,j<i-> -1<=x j/\x j<=1) (h1:x i=1) (h0: ∀j,i<j->j<n->x j=0):f i i<=nrm n f x:=by
 rcases Int.lt_or_le (nrm n f x) (f i i)with h|h
 ·exact absurd (LI hi hb h1 h0 h) (hm.2 i hi)
 exact h
theorem oH {f:FF} (hm:MinkP f n) {j:Nat} (hj:j<n): ∀i,i<=j->f i i<=f j j:=fun i hi=>by
 obtain⟨m,rfl⟩: ∃m,j=i+m:=⟨j-i,by omega⟩
 induction m with
 |zero=>exact Int.le_refl _
 |succ m ih=>
  have h1:=ih (by omega) (by omega);have h2:=(hm.1 (i+m) (by omega)).1;rw[<- Nat.add_assoc];omega
theorem BH {f:FF} (hs:SymF f n) (hm:MinkP f n) {i j:Nat} (hij:i<j) (hj:j<n): -(f i i)<=2*f i j/\2*f i j<=f i i:=by
 have key: ∀c:Int,-1<=c->c<=1->f j j<=f j j+2*c*f j i+c*c*f i i:=fun c h1 h2=>by
  have h:=xT hm hj (x:=fun r=>eC j r+c*eC i r) (fun r hr=>by
   unfold eC;rw[if_neg (by omega)];split<;>omega) (by unfold eC;rw[if_pos rfl,if_neg (by omega)];omega) (fun r hr _=>by unfold eC;rw[if_neg (by omega),if_neg (by omega)];omega)
  rw[qG hs,kQ hj,kQ (by omega),Qp hj (by omega)]at h;exact h
 have h1:=key 1 (by omega) (by omega);have h2:=key (-1) (by omega) (by omega);have e:=hs i (by omega) j hj;omega
theorem G9 {f:FF} (hs:SymF f n) (hm:MinkP f n) {i j:Nat} (hi:i<n) (hj:j<n) (hij:i≠j): -(f j j)<=2*f i j/\2*f i j<=f j j:=by
 rcases Nat.lt_or_ge i j with h|h
 ·have h1:=BH hs hm h hj;have h2:=oH hm hj i (by omega);omega
 have h1:=BH hs hm (show j<i by omega) hi;have e:=hs i hi j hj;omega
def xf (y:Nat->Int) (k:Nat):Nat->Int:=fun j=>if j<k then(if 0<y j then 1 else if y j<0 then -1 else 0)else 0
theorem PS (y:Nat->Int) (k j:Nat): -1<=xf y k j/\xf y k j<=1:=by
 unfold xf;split
 ·split
  ·omega
  split<;>omega
 omega
def l1 (y:Nat->Int):Nat->Nat
 |0=>0
 |k+1=>l1 y k+(y k).natAbs
theorem Fp {y:Nat->Int}: ∀{k},l1 y k=0-> ∀j,j<k->y j=0
 |k+1,h,j,hj=>by
  rw[l1]at h;by_cases e:j=k
  ·subst e;omega
  exact Fp (k:=k) (by omega) j (by omega)
theorem JS {y:Nat->Int} {K:Nat}: ∀k,k<=K->l1 (fun j=>y j+ -1*xf y K j) k<=l1 y k/\(l1 y k≠0->l1 (fun j=>y j+ -1*xf y K j) k<l1 y k)
 |0,_=>by simp[l1]
 |k+1,hk=>by
  have ih:=JS (y:=y) (K:=K) k (by omega);have h1:(y k+ -1*xf y K k).natAbs<=(y k).natAbs/\((y k).natAbs≠0->(y k+ -1*xf y K k).natAbs<(y k).natAbs):=by
   unfold xf;rw[if_pos (by omega)];split
   ·omega
   split<;>omega
  rw[l1,l1];refine⟨by omega,fun h=>?_⟩;by_cases e:l1 y k=0
  ·have:=h1.2 (by omega);omega
  have:=ih.2 e;omega
theorem EW {f:FF} (hs:SymF f n) (hm:MinkP f n) {e:Nat->Int} (he: ∀j,-1<=e j/\e j<=1) {j:Nat} (hj:j<n) (hej:e j=1\/e j= -1) (hd:0<=f j j): ∀m,m<=n->(if j<m then 2*f j j-((m-1:Nat):Int)*f j j else-((m:Nat):Int)*f j j)<=2*(e j*bY (fun i=>e i*f i j) m)
 |0,_=>by simp[bY]
 |m+1,hmn=>by
  have ih:=EW hs hm he hj hej hd m (by omega);rw[bY];have hmul:((m+1:Nat):Int)*f j j=((m:Nat):Int)*f j j+f j j:=by rw[Int.natCast_add,Int.add_mul];simp
  by_cases h:m=j
  ·subst h;rw[if_neg (by omega)]at ih;rw[if_pos (by omega),Nat.add_sub_cancel];have e1:e m*(e m*f m m)=f m m:=by rcases hej with h|h<;>rw[h]<;>omega
   have e2:2*(e m*(bY (fun i=>e i*f i m) m+e m*f m m))=2*(e m*bY (fun i=>e i*f i m) m)+2*f m m:=by
    rw[Int.mul_add,e1];omega
   rw[e2];have: -((m:Nat):Int)*f m m= -(((m:Nat):Int)*f m m):=Int.neg_mul _ _;omega
  have hh:=G9 hs hm (show m<n by omega) hj h;have hem:=he m;have e3: -(f j j)<=2*(e j*(e m*f m j)):=by
   have c:e m= -1\/e m=0\/e m=1:=by omega
   rcases hej with h1|h1<;>rcases c with h2|h2|h2<;>rw[h1,h2]<;>omega
  have e2:2*(e j*(bY (fun i=>e i*f i j) m+e m*f m j))=2*(e j*bY (fun i=>e i*f i j) m)+2*(e j*(e m*f m j)):=by
   rw[Int.mul_add];omega
  rw[e2];have n1: -((m:Nat):Int)*f j j= -(((m:Nat):Int)*f j j):=Int.neg_mul _ _;have n2: -((m+1:Nat):Int)*f j j= -(((m+1:Nat):Int)*f j j):=Int.neg_mul _ _;by_cases hjm:j<m
  ·rw[if_pos hjm]at ih;rw[if_pos (by omega),Nat.add_sub_cancel];have hmul2:((m:Nat):Int)*f j j=((m-1:Nat):Int)*f j j+f j j:=by
    have:((m:Nat):Int)=((m-1:Nat):Int)+1:=by omega
    rw[this,Int.add_mul,Int.one_mul]
   omega
  rw[if_neg hjm]at ih;rw[if_neg (by omega)];omega
theorem OP {f:FF} {x y:Nat->Int} {k:Nat} (hk:k<=n) (hx: ∀i,k<=i->i<n->x i=0):BF n f x y=bY (fun j=>y j*bY (fun i=>x i*f i j) k) n:=by
 unfold BF;rw[aO n (G:=fun i=>bY (fun j=>x i*f i j*y j) n) (fun i _=>by rw[<- cd];exact aO n fun j _=>by grind),ji];refine aO n fun j _=>?_
 obtain⟨m,rfl⟩: ∃m,n=k+m:=⟨n-k,by omega⟩;have ext: ∀m,(∀i,k<=i->i<k+m->x i=0)->bY (fun i=>x i*f i j*y j) (k+m)=bY (fun i=>x i*f i j*y j) k:=fun m=>by
  induction m with
  |zero=>intro _;rfl
  |succ m ih=>
   intro h;rw[<- Nat.add_assoc,bY,ih (fun i h1 h2=>h i h1 (by omega)),h (k+m) (by omega) (by omega)]
   simp
 rw[ext m (fun i h1 h2=>hx i h1 h2),jX,Int.mul_comm]
theorem DK {f:FF} (hp:PD f n) (hm:MinkP f n) {k:Nat} (hk:k<n) (hk3:k<=3): ∀(l:Nat) (y:Nat->Int),l1 y k=l->(∀j,k<=j->j<n->y j=0)->0<=nrm n f y+2*BF n f y (eC k):=fun l=>by
 induction l using Nat.strongRecOn with
 |_ l ih=>
  intro y hl hy;by_cases h0:l1 y k=0
  ·have hz: ∀j,j<n->y j=0:=fun j hj=>by
    rcases Nat.lt_or_ge j k with h|h
    ·exact Fp h0 j h
    exact hy j h hj
   unfold nrm;rw[lR hz,lR hz];omega
  obtain⟨e,hE⟩: ∃e,e=xf y k:=⟨_,rfl⟩;obtain⟨y',hY⟩: ∃y':Nat->Int,y'=fun j=>y j+ -1*xf y k j:=⟨_,rfl⟩
  have heb: ∀j,-1<=e j/\e j<=1:=fun j=>by rw[hE];exact PS y k j
  have he0: ∀j,k<=j->e j=0:=fun j hj=>by rw[hE];unfold xf;rw[if_neg (by omega)]
  have hy0: ∀j,k<=j->j<n->y' j=0:=fun j hj hjn=>by
   rw[hY];show y j+ -1*xf y k j=0;rw[hy j hj hjn,<- hE,he0 j hj];rfl
  have hsum: ∀j,j<n->y j=e j+1*y' j:=fun j _=>by rw[hE,hY];show y j=xf y k j+1*(y j+ -1*xf y k j);omega
  have h1:=ih (l1 y' k) (by rw[<- hl,hY];exact(JS k (ac k)).2 h0) y' rfl hy0
  -- the sign vector
  have h2:0<=nrm n f e+2*BF n f e (eC k):=by
   have h:=xT hm hk (x:=fun r=>e r+1*eC k r) (fun r hr=>by
    have:=heb r;unfold eC;rw[if_neg (by omega)];omega) (by show e k+1*eC k k=1;rw[he0 k (by omega)];simp[eC]) (fun r hr _=>by
    show e r+1*eC k r=0;rw[he0 r (by omega)];unfold eC;rw[if_neg (by omega)];rfl)
   rw[qG hp.1,kQ hk]at h;omega
  -- the inner product
  have h3:0<=BF n f e y':=by
   rw[OP (k:=k) (by omega) (fun i h _=>he0 i h)];refine mK n fun j hj=>?_
   rcases Nat.lt_or_ge j k with hjk|hjk
   ·by_cases hz:y' j=0
    ·rw[hz,Int.zero_mul];omega
    have hd:=hp.diag hj;have hej:(e j=1/\0<y' j)\/(e j= -1/\y' j<0):=by
     rw[hE,hY];rw[hY]at hz;have hz:y j+ -1*xf y k j≠0:=hz;show(xf y k j=1/\0<y j+ -1*xf y k j)\/(xf y k j= -1/\y j+ -1*xf y k j<0);have e0:xf y k j=if 0<y j then 1 else if y j<0 then -1 else 0:=by unfold xf;rw[if_pos hjk]
     rw[e0]at hz⊢;split
     ·rename_i hpos;rw[if_pos hpos]at hz;left;omega
     rename_i hpos;rw[if_neg hpos]at hz;split
     ·rename_i hneg;rw[if_pos hneg]at hz;right;omega
     rename_i hneg;rw[if_neg hneg]at hz;omega
    have hc:=EW hp.1 hm heb hj (by rcases hej with h|h;exact .inl h.1;exact .inr h.1) (by omega) k (by omega);rw[if_pos hjk]at hc;have hk2:((k-1:Nat):Int)*f j j<=2*f j j:=Int.mul_le_mul_of_nonneg_right (by omega) (by omega);generalize bY (fun i=>e i*f i j) k=S at*
    rcases hej with⟨g1,g2⟩|⟨g1,g2⟩
    ·rw[g1]at hc;exact Int.mul_nonneg (by omega) (by omega)
    rw[g1]at hc;exact Int.mul_nonneg_of_nonpos_of_nonpos (by omega) (by omega)
   rw[hy0 j hjk hj,Int.zero_mul];omega
  have e5:nrm n f y=nrm n f e+2*BF n f e y'+nrm n f y':=by
   rw[iN hsum,qG hp.1];omega
  have e6:BF n f y (eC k)=BF n f e (eC k)+BF n f y' (eC k):=by
   rw[eJ (x':=fun j=>e j+1*y' j) (fun _ _ _ _=>rfl) hsum (fun _ _=>rfl),iS];omega
  omega
end
section
variable {n:Nat}
theorem BI {f:FF} (hp:PD f n) (hm:MinkP f n) {k:Nat} (hk:k<n) (hk3:k<=3) {x:Nat->Int} (h1:x k=1) (h0: ∀j,k<j->j<n->x j=0):f k k<=nrm n f x:=by
 have h:=DK hp hm hk hk3 _ (fun j=>if j<k then x j else 0) rfl (fun j hj _=>if_neg (by omega));have e: ∀j,j<n->x j=(fun j=>if j<k then x j else 0) j+1*eC k j:=fun j hj=>by
  show x j=(if j<k then x j else 0)+1*eC k j;unfold eC;by_cases h2:j<k
  ·rw[if_pos h2,if_neg (by omega)];omega
  rw[if_neg h2];by_cases h3:j=k
  ·subst h3;rw[if_pos rfl,h1];rfl
  rw[if_neg h3,h0 j (by omega) hj];rfl
 rw[iN e,qG hp.1,kQ hk];omega
theorem M3 (f:FF) (m:Int) (x:Nat->Int):nrm n f (fun i=>m*x i)=m*m*nrm n f x:=by
 unfold nrm BF;rw[<- cd];refine aO n fun i _=>?_
 rw[aO n (G:=fun j=>m*(f i j*x j)) (fun j _=>by grind),cd];grind
theorem xU {f:FF} (hp:PD f n) (hm:MinkP f n) {k:Nat} (hk:k<n) (hk3:k<=3) {m:Int} (hm0:0<m): ∀j,j<=k-> ∀u:Nat->Int,u k=m->(∀i,k<i->i<n->u i=0)->(∀i,j<=i->i<k->m∣u i)->
  m*m*(4*f k k-bY (fun i=>f i i) j)<=4*nrm n f u
 |0,_,u,h1,h0,hd=>by
  have e: ∀i,i<n->u i=m*(if k<i then 0 else u i/m):=fun i hi=>by
   by_cases h:k<i
   ·rw[if_pos h,h0 i h hi];simp
   rw[if_neg h];by_cases h2:i=k
   ·subst h2;rw[h1,Int.ediv_self (by omega)];simp
   exact(Int.mul_ediv_cancel' (hd i (by omega) (by omega))).symm
  have h2:=BI hp hm hk hk3 (x:=fun i=>if k<i then 0 else u i/m) (by
   show(if k<k then 0 else u k/m)=1;rw[if_neg (by omega),h1,Int.ediv_self (by omega)]) (fun j hj _=>if_pos hj)
  rw[iN e,M3];have h3:=Int.mul_le_mul_of_nonneg_left h2 (Int.mul_nonneg (Int.le_of_lt hm0) (Int.le_of_lt hm0));have e0:bY (fun i=>f i i) 0=0:=rfl;rw[e0];have e4:m*m*(4*f k k-0)=4*(m*m*f k k):=by grind
  omega
 |j+1,hj,u,h1,h0,hd=>by
  have hjn:j<n:=by omega
  obtain⟨r,hr⟩: ∃r,r=u j%m:=⟨_,rfl⟩;have r0:0<=r:=by rw[hr];exact Int.emod_nonneg _ (by omega)
  have r1:r<m:=by rw[hr];exact Int.emod_lt_of_pos _ hm0
  have hdj:m∣u j+ -r:=by
   have:u j+ -r=m*(u j/m):=by have:=Int.mul_ediv_add_emod (u j) m;omega
   exact⟨u j/m,this⟩
  have sub: ∀c:Int,m∣u j+c->m*m*(4*f k k-bY (fun i=>f i i) j)<=4*nrm n f (fun i=>u i+c*eC j i):=fun c hc=>by
   refine xU hp hm hk hk3 hm0 j (by omega) _ ?_ (fun i hi hin=>?_) (fun i hi hik=>?_)
   ·show u k+c*eC j k=m;unfold eC;rw[if_neg (by omega),h1];omega
   ·show u i+c*eC j i=0;unfold eC;rw[if_neg (by omega),h0 i hi hin];omega
   show m∣u i+c*eC j i;unfold eC;by_cases e:i=j
   ·subst e;rw[if_pos rfl,Int.mul_one];exact hc
   rw[if_neg e,Int.mul_zero,Int.add_zero];exact hd i (by omega) hik
  have a0:=sub (-r) hdj;have a1:=sub (m-r) (by
   obtain⟨q,hq⟩:=hdj;exact⟨q+1,by rw[Int.mul_add,<- hq];omega⟩)
  rw[qG hp.1,kQ hjn]at a0 a1;have hW:=hp.diag hjn;rw[bY];generalize bY (fun i=>f i i) j=S at*
  generalize BF n f u (eC j)=B at*
  generalize nrm n f u=U at*
  generalize f j j=W at*
  generalize f k k=K at*
  -- (m - r) a0 + r a1
  have b0:=Int.mul_le_mul_of_nonneg_left a0 (show 0<=m-r by omega);have b1:=Int.mul_le_mul_of_nonneg_left a1 r0;have e1:(m-r)*(4*(U+2* -r*B+ -r* -r*W))+r*(4*(U+2*(m-r)*B+(m-r)*(m-r)*W))=m*(4*U+4*(r*(m-r))*W):=by grind
  have e2:(m-r)*(m*m*(4*K-S))+r*(m*m*(4*K-S))=m*(m*m*(4*K-S)):=by grind
  have h3:m*(m*m*(4*K-S))<=m*(4*U+4*(r*(m-r))*W):=by omega
  have h4:=Int.le_of_mul_le_mul_left h3 hm0;have h5:4*(r*(m-r))<=m*m:=by
   have:0<=(m-2*r)*(m-2*r):=by
    rcases Int.le_total 0 (m-2*r)with h|h
    ·exact Int.mul_nonneg h h
    exact Int.mul_nonneg_of_nonpos_of_nonpos h h
   have e:(m-2*r)*(m-2*r)=m*m-4*(r*(m-r)):=by grind
   omega
  have h6:=Int.mul_le_mul_of_nonneg_right h5 (Int.le_of_lt hW);have e3:m*m*(4*K-(S+W))=m*m*(4*K-S)-m*m*W:=by grind
  omega
theorem J1 {f:FF} (hp:PD f n) (hm:MinkP f n) (hn:n<=4) {k:Nat} (hk:k<n) {x:Nat->Int} (hx:x k≠0) (h0: ∀j,k<j->j<n->x j=0):f k k<=nrm n f x:=by
 have pos: ∀x:Nat->Int,0<x k->(∀j,k<j->j<n->x j=0)->f k k<=nrm n f x:=fun x hx h0=>by
  have hd:=hp.diag hk;by_cases h1:x k=1
  ·exact BI hp hm hk (by omega) h1 h0
  have h2:=xU hp hm hk (by omega) (m:=x k) hx k (ac k) x rfl h0 (fun i h3 h4=>by omega);have hs:bY (fun i=>f i i) k<=3*f k k:=by
   have: ∀j,j<=k->bY (fun i=>f i i) j<=(j:Int)*f k k:=fun j=>by
    induction j with
    |zero=>intro _;simp[bY]
    |succ j ih=>
     intro hj;have h3:=ih (by omega);have h4:=oH hm hk j (by omega);rw[bY,Int.natCast_add,Int.add_mul];simp;omega
   have h3:=this k (ac k);have h4:(k:Int)*f k k<=3*f k k:=Int.mul_le_mul_of_nonneg_right (by omega) (by omega);omega
  have h5:x k*x k*f k k<=x k*x k*(4*f k k-bY (fun i=>f i i) k):=Int.mul_le_mul_of_nonneg_left (by omega) (Int.mul_nonneg (by omega) (by omega));have h6:2*2<=x k*x k:=Int.mul_le_mul (by omega) (by omega) (by omega) (by omega);have h7:=Int.mul_le_mul_of_nonneg_right h6 (Int.le_of_lt hd);omega
 rcases Int.lt_or_le 0 (x k)with h|h
 ·exact pos x h h0
 rw[<- M4];exact pos (fun i=> - x i) (by show 0< - x k;omega) (fun j h1 h2=>by show-x j=0;rw[h0 j h1 h2];rfl)
end
section
variable {n:Nat}
theorem K6 {F:Nat->Int} {p q m:Nat} (hp:p<m) (hq:q<m):bY (fun a=>if a=p then F q else if a=q then F p else F a) m=bY F m:=by
 by_cases h:p=q
 ·subst h;exact aO m fun a _=>by
   by_cases e:a=p
   ·subst e;rw[if_pos rfl]
   rw[if_neg e,if_neg e]
 have h1:=kD (F:=F) (G:=fun a=>if a=p then F q else F a) hp (fun a _ hne=>(if_neg hne).symm);have h2:=kD (F:=fun a=>if a=p then F q else F a) (G:=fun a=>if a=p then F q else if a=q then F p else F a) hq (fun a _ hne=>by
  by_cases e:a=p
  ·rw[if_pos e,if_pos e]
  rw[if_neg e,if_neg e,if_neg hne])
 rw[if_pos rfl]at h1;rw[if_neg (Ne.symm h),if_pos rfl,if_neg (Ne.symm h)]at h2;omega
theorem yW: ∀(i:Nat) (X:FF),∃c:Nat->Int,(∃a,a<=i/\c a≠0)/\ ∀r,r<i->bY (fun a=>c a*X a r) (i+1)=0
 |0,_=>⟨fun _=>1,⟨0,by omega,by simp⟩,fun r hr=>by omega⟩
 |i+1,X=>by
  by_cases hz: ∀a,a<=i+1->X a i=0
  ·obtain⟨c,⟨a,ha,hc⟩,h⟩:=yW i X;refine⟨fun a=>if a=i+1 then 0 else c a,⟨a,by omega,by show(if a=i+1 then 0 else c a)≠0;rw[if_neg (by omega)];exact hc⟩,fun r hr=>?_⟩;show bY (fun a=>(if a=i+1 then 0 else c a)*X a r) (i+1+1)=0;rw[bY,if_pos rfl,Int.zero_mul,Int.add_zero];by_cases e:r=i
   ·subst e;rw[aO (r+1) (G:=fun _=>0) (fun a ha=>by rw[hz a (by omega),Int.mul_zero]),eB]
   rw[aO (i+1) (G:=fun a=>c a*X a r) (fun a ha=>by rw[if_neg (by omega)])];exact h r (by omega)
  obtain⟨p,hp,hpz⟩: ∃p,p<=i+1/\X p i≠0:=by
   rcases Classical.em (∃p,p<=i+1/\X p i≠0)with h|h
   ·exact h
   exact absurd (fun a ha=>Classical.byContradiction fun hne=>h ⟨a,ha,hne⟩) hz
  obtain⟨Y,hY⟩: ∃Y:Nat->Nat->Int,Y=fun a=>if a=p then X (i+1)else if a=i+1 then X p else X a:=⟨_,rfl⟩
  have hYl:Y (i+1)=X p:=by
   rw[hY];by_cases e:i+1=p
   ·show(if i+1=p then X (i+1)else _)=_;rw[if_pos e,e]
   show(if i+1=p then X (i+1)else if i+1=i+1 then X p else X (i+1))=_;rw[if_neg e,if_pos rfl]
  obtain⟨q,hq⟩: ∃q,q=X p i:=⟨_,rfl⟩;obtain⟨c,⟨a0,ha0,hc0⟩,h⟩:=yW i (fun a r=>q*Y a r-Y a i*X p r);obtain⟨s,hs⟩: ∃s,s=bY (fun a=>c a*Y a i) (i+1):=⟨_,rfl⟩;have hsum: ∀r,r<i+1->bY (fun a=>(if a=i+1 then -s else q*c a)*Y a r) (i+1+1)=0:=fun r hr=>by
   rw[bY,if_pos rfl,hYl,aO (i+1) (G:=fun a=>q*(c a*Y a r)) (fun a ha=>by rw[if_neg (by omega)];grind),cd];by_cases e:r=i
   ·subst e;rw[<- hs,<- hq];grind
   have h1:=h r (by omega);have h2:bY (fun a=>c a*(q*Y a r-Y a i*X p r)) (i+1)=q*bY (fun a=>c a*Y a r) (i+1)-X p r*s:=by
    rw[hs,<- cd,<- cd];have: ∀(F G:Nat->Int) m,bY (fun a=>F a-G a) m=bY F m-bY G m:=fun F G m=>by
     induction m with
     |zero=>rfl
     |succ m ih=>rw[bY,bY,bY,ih];omega
    rw[<- this];exact aO _ fun a _=>by grind
   rw[h2]at h1;have e1: -s*X p r= -(X p r*s):=by grind
   rw[e1];omega
  refine⟨fun a=>if a=p then -s else if a=i+1 then(if p=i+1 then -s else q*c p)else q*c a,?_,fun r hr=>?_⟩
  ·by_cases e:a0=p
   ·by_cases e2:p=i+1
    ·omega
    refine⟨i+1,by omega,?_⟩;show(if i+1=p then -s else if i+1=i+1 then(if p=i+1 then -s else q*c p)else q*c (i+1))≠0;rw[if_neg (by omega),if_pos rfl,if_neg e2];subst e;exact Int.mul_ne_zero (by rw[hq];exact hpz) hc0
   refine⟨a0,by omega,?_⟩;show(if a0=p then -s else if a0=i+1 then(if p=i+1 then -s else q*c p)else q*c a0)≠0;rw[if_neg e,if_neg (by omega)];exact Int.mul_ne_zero (by rw[hq];exact hpz) hc0
  rw[<- hsum r hr,<- K6 (F:=fun a=>(if a=i+1 then -s else q*c a)*Y a r) (p:=p) (q:=i+1) (by omega) (by omega)];refine aO _ fun a ha=>?_
  show(if a=p then -s else if a=i+1 then(if p=i+1 then -s else q*c p)else q*c a)*X a r=if a=p then(if i+1=i+1 then -s else q*c (i+1))*Y (i+1) r else if a=i+1 then(if p=i+1 then -s else q*c p)*Y p r else(if a=i+1 then -s else q*c a)*Y a r
  by_cases e:a=p
  ·subst e;rw[if_pos rfl,if_pos rfl,if_pos rfl,hYl]
  rw[if_neg e,if_neg e];by_cases e2:a=i+1
  ·subst e2;rw[if_pos rfl,if_pos rfl];have:Y p=X (i+1):=by rw[hY];exact if_pos rfl
   rw[this]
  rw[if_neg e2,if_neg e2,if_neg e2];have:Y a=X a:=by rw[hY];show(if a=p then X (i+1)else if a=i+1 then X p else X a)=X a;rw[if_neg e,if_neg e2]
  rw[this]
def yz (n:Nat) (t:FF):Prop:= ∃s:(Nat->Int)->Nat->Int,∀v j,j<n->mV n t (s v) j=v j
theorem PF (h t:FF) (x:Nat->Int):nrm n h (mV n t x)=nrm n (cngF n h t) x:=rB h t x x
theorem GY {h u:FF} (hp:PD (cngF n h u) n) {x:Nat->Int} (hx: ∀i,i<n->bY (fun j=>u i j*x j) n=0): ∀j,j<n->x j=0:=by
 refine(hp.pos x).2.1 ?_;rw[<- rB];refine lR fun i hi=>?_
 rw[<- hx i hi];exact aO n fun a _=>Int.mul_comm _ _
theorem BE {h t u:FF} (hn:n<=4) (hf:PD (cngF n h t) n) (mf:MinkP (cngF n h t) n) (mg:MinkP (cngF n h u) n) (ht:yz n t) (hu:PD (cngF n h u) n) {i:Nat} (hi:i<n):cngF n h t i i<=cngF n h u i i:=by
 obtain⟨s,hs⟩:=ht;rcases Int.lt_or_le (cngF n h u i i) (cngF n h t i i)with hlt|hle
 ·exfalso;obtain⟨X,hX⟩: ∃X:Nat->Nat->Int,X=fun a=>s (fun r=>u r a):=⟨_,rfl⟩
  have hTX: ∀a j,j<n->mV n t (X a) j=u j a:=fun a j hj=>by rw[hX];exact hs _ j hj
  have hN: ∀a,nrm n (cngF n h t) (X a)=cngF n h u a a:=fun a=>by
   rw[<- PF,iN (hTX a),dW];rfl
  have hzero: ∀a,a<=i-> ∀m k,m+k+1=n->i<=k->X a k=0:=fun a ha m=>by
   induction m using Nat.strongRecOn with
   |_ m ih=>
    intro k hk hik;refine Classical.byContradiction fun hne=>?_
    have h1:=J1 hf mf hn (show k<n by omega) hne (fun j hj hjn=>ih (n-j-1) (by omega) j (by omega) (by omega));have h2:=oH mf (show k<n by omega) i hik;have h3:=oH mg hi a ha;rw[hN]at h1;omega
  obtain⟨c,⟨a,ha,hc⟩,h0⟩:=yW i X;have hker:=GY hu (x:=fun a=>if a<=i then c a else 0) (fun r hr=>by
   have e1: ∀m,i+1<=m->bY (fun j=>u r j*(if j<=i then c j else 0)) m=bY (fun j=>u r j*c j) (i+1):=fun m hm=>by
    obtain⟨d,rfl⟩: ∃d,m=i+1+d:=⟨m-(i+1),by omega⟩
    induction d with
    |zero=>exact aO _ fun j hj=>by rw[if_pos (by omega)]
    |succ d ihd=>rw[<- Nat.add_assoc,bY,ihd (by omega),if_neg (by omega)];omega
   rw[e1 n (by omega),aO (i+1) (G:=fun j=>bY (fun b=>c j*X j b*t r b) n) (fun j hj=>by
    rw[<- hTX j r hr];unfold mV;rw[Int.mul_comm,<- cd];exact aO n fun b _=>by grind),ji,aO n (G:=fun _=>0) (fun b hb=>by
    rw[aO (i+1) (G:=fun j=>(c j*X j b)*t r b) (fun _ _=>rfl),jX];by_cases hbi:b<i
    ·rw[h0 b hbi,Int.zero_mul]
    rw[aO (i+1) (G:=fun _=>0) (fun j hj=>by rw[hzero j (by omega) (n-b-1) b (by omega) (by omega),Int.mul_zero]),eB,Int.zero_mul]),eB]) a (by omega)
  rw[if_pos ha]at hker;exact hc hker
 exact hle
theorem rZ {h t u:FF} (hn:n<=4) (pt:PD (cngF n h t) n) (pu:PD (cngF n h u) n) (mf:MinkP (cngF n h t) n) (mg:MinkP (cngF n h u) n) (ht:yz n t) (hu:yz n u) {i:Nat} (hi:i<n):cngF n h t i i=cngF n h u i i:=by
 have h1:=BE hn pt mf mg ht pu hi;have h2:=BE hn pu mg mf hu pt hi;omega
theorem BD {h t u:FF} (hn:n<=4) (hp:PD h n) (mf:MinkP (cngF n h t) n) (mg:MinkP (cngF n h u) n) (ht:yz n t) (hu:yz n u) (dt:dk t n≠0) (du:dk u n≠0) {i:Nat} (hi:i<n):cngF n h t i i=cngF n h u i i:=
 rZ hn (hp.cng dt) (hp.cng du) mf mg ht hu hi
end
section
variable {n:Nat}
def gB (n:Nat) (t:FF):Prop:= ∀v:Nat->Int,∃y,∀j,j<n->mV n t y j=v j
theorem gB.rinv {t:FF} (h:gB n t):yz n t:=⟨fun v=>Classical.choose (h v),fun v=>Classical.choose_spec (h v)⟩
theorem gB.of {t t':FF} (h:gB n t) (k: ∀x,∃y,∀j,j<n->mV n t' y j=mV n t x j):gB n t':=fun v=>by
 obtain⟨x,hx⟩:=h v;obtain⟨y,hy⟩:=k x;exact⟨y,fun j hj=>by rw[hy j hj,hx j hj]⟩
theorem gB.one:gB n (fun i j=>if i=j then 1 else 0):=fun v=>⟨v,fun j hj=>by
 show bY (fun a=>v a*(if j=a then 1 else 0)) n=v j;rw[iY hj (fun p _ hne=>by rw[if_neg (Ne.symm hne),Int.mul_zero]),if_pos rfl,Int.mul_one]⟩
theorem gB.congr {t t':FF} (h:gB n t) (e: ∀i j,i<n->j<n->t' i j=t i j):gB n t':=h.of fun x=>⟨x,fun j hj=>aO n fun a ha=>by rw[e j a hj ha]⟩
theorem gB.swap {t:FF} (h:gB n t) {p q:Nat} (hp:p<n) (hq:q<n):gB n (fun i c=>if c=p then t i q else if c=q then t i p else t i c):=h.of fun x=>
 ⟨fun a=>if a=p then x q else if a=q then x p else x a,fun j _=>by
  unfold mV;rw[<- K6 (F:=fun a=>x a*t j a) hp hq];refine aO n fun a _=>?_
  show(if a=p then x q else if a=q then x p else x a)*(if a=p then t j q else if a=q then t j p else t j a)=if a=p then x q*t j q else if a=q then x p*t j p else x a*t j a
  by_cases e:a=p
  ·rw[if_pos e,if_pos e,if_pos e]
  rw[if_neg e,if_neg e,if_neg e];by_cases e2:a=q
  ·rw[if_pos e2,if_pos e2,if_pos e2]
  rw[if_neg e2,if_neg e2,if_neg e2]⟩
theorem gB.comb {t:FF} (h:gB n t) {i:Nat} (hi:i<n) {c:Nat->Int} (hc:c i=1):gB n (dv t i (mV n t c)):=h.of fun x=>
 ⟨fun a=>if a=i then x i else x a-x i*c a,fun j _=>by
  have h1:=kD (F:=fun a=>(x a-x i*c a)*t j a) (G:=fun a=>(if a=i then x i else x a-x i*c a)*dv t i (mV n t c) j a) hi (fun a _ hne=>by
   show _=(if a=i then x i else x a-x i*c a)*dv t i (mV n t c) j a;unfold dv;rw[if_neg hne,if_neg hne])
  have h2:bY (fun a=>(x a-x i*c a)*t j a) n=bY (fun a=>x a*t j a) n-x i*bY (fun a=>c a*t j a) n:=by
   rw[<- cd];have: ∀(F G:Nat->Int) m,bY (fun a=>F a-G a) m=bY F m-bY G m:=fun F G m=>by
    induction m with
    |zero=>rfl
    |succ m ih=>rw[bY,bY,bY,ih];omega
   rw[<- this];exact aO _ fun a _=>by grind
  have e1:(if i=i then x i else x i-x i*c i)*dv t i (mV n t c) j i=x i*bY (fun a=>c a*t j a) n:=by
   unfold dv mV;rw[if_pos rfl,if_pos rfl]
  show bY (fun a=>(if a=i then x i else x a-x i*c a)*dv t i (mV n t c) j a) n=bY (fun a=>x a*t j a) n;rw[h1,h2,e1,hc];have e2:(x i-x i*1)*t j i=0:=by rw[Int.mul_one,Int.sub_self,Int.zero_mul]
  rw[e2];omega⟩
theorem gB.sign {t:FF} (h:gB n t) {s:Nat->Int} (hs: ∀a,s a=1\/s a= -1):gB n (fun i c=>s c*t i c):=h.of fun x=>
 ⟨fun a=>s a*x a,fun j _=>aO n fun a _=>by
  show s a*x a*(s a*t j a)=x a*t j a;rcases hs a with e|e<;>rw[e]<;>grind⟩
/-! The program's loop. -/
theorem Bo (N:(Nat->Int)->Int): ∀j B,j<n->gB n (trF B)->gB n (trF (insB N B j))
 |0,_,_,h=>h
 |j+1,B,hj,h=>by
  rw[insB];split
  ·refine Bo N j _ (by omega) ?_;rw[Lj];exact h.swap hj (by omega)
  exact h
theorem wG (N:(Nat->Int)->Int) {B:FF} (h:gB n (trF B)): ∀i,i<=n->gB n (trF (lN N B i))
 |0,_=>h
 |i+1,hi=>Bo N i _ (by omega) (wG N h i (by omega))
theorem vW {h B R:FF} (hr:RchB n h B R) (hB:gB n (trF B)):gB n (trF R):=by
 induction hr with
 |done B hv=>exact wG _ hB n (ac n)
 |step B R i hv _ ih=>
  obtain⟨_,h1,h2,_⟩:=jL n 0 i hv;refine ih ?_;rw[Li];exact gB.comb (wG _ hB n (ac n)) (by omega) (wu n _ i (3^i)).1
theorem zV {g B:FF} (h:gB n (trF B)):gB n (trF (j7 g B)):=h.sign (s:=mG g) (mH g)
/-! The reference's loop. -/
end
theorem kN (f:FF):dk f 2=f 0 0*f 1 1-f 0 1*f 1 0:=by
 simp[dk,om,dr,iD];grind
theorem E4 (h t:FF):dk (cngF 2 h t) 2=dk h 2*(dk t 2*dk t 2):=by
 rw[kN,kN,kN];simp only[dW,BF,bY];grind
theorem vy {h t u:FF} (hp:PD h 2) (mf:MinkP (cngF 2 h t) 2) (mg:MinkP (cngF 2 h u) 2) (ht:yz 2 t) (hu:yz 2 u) (dt:(dk t 2).natAbs=1) (du:(dk u 2).natAbs=1) {i j:Nat} (hi:i<2) (hj:j<2):cngF 2 h t i j=cngF 2 h u i j:=by
 have d0:=BD (by omega) hp mf mg ht hu (by omega) (by omega) (i:=0) (by omega);have d1:=BD (by omega) hp mf mg ht hu (by omega) (by omega) (i:=1) (by omega);have q: ∀v:Int,v.natAbs=1->v*v=1:=fun v hv=>by
  have:v=1\/v= -1:=by omega
  rcases this with e|e<;>rw[e]<;>rfl
 have e1:=E4 h t;have e2:=E4 h u;rw[q _ dt,kN]at e1;rw[q _ du,kN]at e2;have s1:=(hp.cng (t:=t) (by omega)).1 0 (by omega) 1 (by omega);have s2:=(hp.cng (t:=u) (by omega)).1 0 (by omega) 1 (by omega);have n1:=(mf.1 0 (by omega)).2;have n2:=(mg.1 0 (by omega)).2;rw[Nat.zero_add]at n1 n2;have off:cngF 2 h t 0 1=cngF 2 h u 0 1:=by
  rw[<- s1]at e1;rw[<- s2]at e2;rw[d0,d1]at e1;generalize cngF 2 h t 0 1=a at*
  generalize cngF 2 h u 0 1=b at*
  have hab:a*a=b*b:=by omega
  rcases Int.lt_or_le a b with hl|hl
  ·have:a*a<b*b:=by
    have h1:a*a<=a*b:=Int.mul_le_mul_of_nonneg_left (by omega) n1;have h2:a*b<b*b:=Int.mul_lt_mul_of_pos_right hl (by omega);omega
   omega
  rcases Int.lt_or_le b a with hl2|hl2
  ·have:b*b<a*a:=by
    have h1:b*b<=b*a:=Int.mul_le_mul_of_nonneg_left (by omega) n2;have h2:b*a<a*a:=Int.mul_lt_mul_of_pos_right hl2 (by omega);omega
   omega
  omega
 have ci:i=0\/i=1:=by omega
 have cj:j=0\/j=1:=by omega
 rcases ci with rfl|rfl<;>rcases cj with rfl|rfl
 ·exact d0
 ·exact off
 ·rw[<- s1,<- s2];exact off
 exact d1
end Go.Proofs.YtfgeomlagfomgaaGreatDoor
