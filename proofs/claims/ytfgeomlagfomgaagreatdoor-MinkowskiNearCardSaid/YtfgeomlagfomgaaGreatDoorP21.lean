/-
  Part 22 of a proof (walks and plain facts).
-/
import Derived.Test.YtfgeomlagfomgaaGreatDoorP20
import Derived.ProofKit
import Derived.LaidMore
import Derived.LaidLaws
import Derived.LaidHandle
import Derived.OpenShut
set_option linter.all false
set_option maxRecDepth 100000
set_option maxHeartbeats 64000000
open Nat renaming reduceAdd → aa
open Nat renaming reduceEqDiff → ab
open List renaming replicate → ae
open Nat renaming reduceLeDiff → ah
open List renaming getElem?_map → ay
namespace Go.Proofs.YtfgeomlagfomgaaGreatDoor
open Go.RowKit
abbrev ip:List PV:=[.raw (.int .i64 1),.raw (.int .i64 3),.raw (.int .i64 9),.raw (.int .i64 27)]
theorem G3 (i code j:Nat): -1<=cnd i code j/\cnd i code j<=1:=by
 unfold cnd;split
 ·exact yV code j
 split<;>omega
theorem Nl {i:Nat}:a4 (OV (fun _=>0) i 1)=a4 (eC i):=oX fun j _=>by unfold OV eC;rfl
theorem Hk {c c':Nat->Int} {b:Bool} (h:b=true↔ ∀j,j<4->c j=c' j):Bs (a4 c) (a4 c')=some b:=by
 have e:Bs (a4 c) (a4 c')=some (decide (c 0=c' 0)&&(decide (c 1=c' 1)&&(decide (c 2=c' 2)&&(decide (c 3=c' 3)&&true)))):=rfl;rw[e]
 congr 1
 apply Bool.eq_iff_iff.2;rw[h];simp only[Bool.and_eq_true,decide_eq_true_eq,and_true];constructor
 ·rintro⟨h0,h1,h2,h3⟩ j hj
  match j,hj with
  |0,_=>exact h0
  |1,_=>exact h1
  |2,_=>exact h2
  |3,_=>exact h3
 exact fun h=>⟨h 0 (by omega),h 1 (by omega),h 2 (by omega),h 3 (by omega)⟩
theorem A3:packT Tryz.prog 3 [.raw (.int .i64 1),.raw (.int .i64 3),.raw (.int .i64 9),.raw (.int .i64 27)]=some (.raw (.int .i64 1)):=by kernel_rfl
theorem A4:packT Tryz.prog 3 [.raw (.int .i64 3),.raw (.int .i64 9),.raw (.int .i64 27)]=some (.raw (.int .i64 3)):=by kernel_rfl
theorem A5:packT Tryz.prog 3 [.raw (.int .i64 9),.raw (.int .i64 27)]=some (.raw (.int .i64 9)):=by kernel_rfl
theorem A6:packT Tryz.prog 3 [.raw (.int .i64 27)]=some (.raw (.int .i64 27)):=by kernel_rfl
theorem EF {i:Nat} (h:i<4):packT Tryz.prog 3 ((ip.drop i).map AV.p)=some (.raw (.int .i64 ((3^i:Nat):Int))):=by
 match i,h with
 |0,_=>exact A3
 |1,_=>exact A4
 |2,_=>exact A5
 |3,_=>exact A6
structure Qc (i:Nat) where
 k:Nat
 hk:k<=3^i
theorem zy (n:Nat) (f:FF) (i:Nat) (hi:i<n) (hn:n<=4) (hf: ∀i j,i<n->j<n-> -1125899906842624<=f i j/\f i j<=1125899906842624):
  CallG Tryz.prog 0 138 77 [slI (mat n n f),.raw (.int .i64 (i:Int))] ip ⟨[],tC (j1 n f i (3^i))⟩:=by
 have hi4:i<4:=by omega
 have h3i:3^i<=27:=Nat.le_trans (Nat.pow_le_pow_right (by omega) (show i<=3 by omega)) (by decide);have a1:=wZ (fun _=>0) 1 hi4;rw[Nl]at a1;refine fG Tryz.func77 rfl (by kernel_rfl) ?_;rw[Tryz.ntmps77];refine aR fun _ K=>?_;simp(disch:=omega) only[kd,jD,slI,aa,ae];apply K
 refine aR fun _ K=>?_;simp(disch:=omega) only[kd,jD,aa,ab];apply K
 refine dJ.weak (aE (tm:=(slI (mat n n f)::rN i::jk::jk::.one (.ptr 4 0 0 0)::.one (.ptr 5 0 0 0)::j16 (j4 (jk::jk::jk::[])))) (l:=[(4,AE fun _=>0),(5,AE fun _=>0)]) ⟨rfl,rfl,trivial⟩ (by simp[wk])) ?_;refine aR fun _ K=>?_;simp(disch:=omega) only[kd,jD,aa,slI,hi4,ab,dP,ah,a1];apply K
 refine bI (Er 2 i 12 (.raw (.int .i64 ((3^i:Nat):Int))) [] [] (by simp[wk]) (by decide) fun K hK=>?_);simp(disch:=omega) only[kd,jD,hi4];apply hK;clear hK K;refine⟨⟨⟨_,_,_,rfl,rfl,rfl,rfl,by simp[AS.ev],?_⟩⟩,by simp[wk],?_⟩
 ·exact EF hi4
 intro K hK;simp only[kd,aa];apply hK;clear hK K;refine eg (G:=Qc i) (fun g=>⟨(slI (mat n n f)::rN i::jk::jk::.one (.ptr 4 0 0 0)::.one (.ptr 5 0 0 0)::j4 (jk::jk::.raw (.int .i64 ((3^i:Nat):Int))::rN g.k::j4 (j4 (j4 (jk::jk::jk::[]))))),Hm [(4,AE fun _=>0),(5,AE (j1 n f i g.k))]⟩) (fun _=>ip) (fun g=>3^i-g.k) ⟨0,Nat.zero_le _⟩ ?_ rfl ?_
 ·refine aE ⟨rfl,rfl,trivial⟩ ?_;simp[wk]
 rintro⟨k,hk⟩;simp only;by_cases hm:k<3^i
 ·have hC:=xE i k hi4 (by omega);have hN1:=DE n f (cnd i k) (by omega) hn hf (G3 i k);have hN2:=DE n f (j1 n f i k) (by omega) hn hf (uH n f i k).2.2;refine aR fun _ K=>?_;simp(disch:=omega) only[kd,jD,slI];apply K
  refine gA rfl ?_;refine bI (cW ?_);refine aR fun _ K=>?_;simp only[kd];apply K
  refine fD [⟨2,_,_,_,hC⟩] [] fun _ K=>?_;simp(disch:=omega) only[kd,jD,tC,aa,ke,qg,ab,dP,fk];apply K
  by_cases hlt:nrm n f (cnd i k)<nrm n f (j1 n f i k)
  ·have es:j1 n f i (k+1)=cnd i k:=by rw[j1,if_pos hlt]
   refine mY be [⟨2,_,_,_,hN1⟩,⟨5,_,_,_,hN2⟩] [] (by kernel_rfl) fun _ K=>?_;simp(disch:=omega) only[kd,jD,slI,tC,aa,ab,dP,gB,fk,Nat.reduceBEq];apply K
   refine kQ rfl ?_;refine cL fun _ K=>?_;simp(disch:=omega) only[kd,jD,ab,dP,gB,fk,mc];apply K
   show dJ _ _ _ _ _ _ _;refine cL fun _ K=>?_;simp(disch:=omega) only[kd,jD,aO];apply K
   refine⟨⟨k+1,by omega⟩,by simp only;omega,aE ⟨rfl,?_,trivial⟩ ?_,rfl⟩
   ·show _=AE (j1 n f i (k+1));rw[es];rfl
   simp[wk]
  have es:j1 n f i (k+1)=j1 n f i k:=by rw[j1,if_neg hlt]
  refine mY be [⟨2,_,_,_,hN1⟩,⟨5,_,_,_,hN2⟩] [] (by kernel_rfl) fun _ K=>?_;simp(disch:=omega) only[kd,jD,slI,tC,aa,ab,dP,gB,fk,Nat.reduceBEq];apply K
  refine gz rfl (eh ?_);show dJ _ _ _ _ _ _ _;refine cL fun _ K=>?_;simp(disch:=omega) only[kd,jD,aO];apply K
  refine⟨⟨k+1,by omega⟩,by simp only;omega,aE ⟨rfl,?_,trivial⟩ ?_,rfl⟩
  ·show _=AE (j1 n f i (k+1));rw[es];rfl
  simp[wk]
 have hke:k=3^i:=by omega
 subst hke;refine aR fun _ K=>?_;simp(disch:=omega) only[kd,jD,slI];apply K
 refine jf rfl ?_;show dJ _ _ _ _ _ _ _;refine aR fun _ K=>?_;simp(disch:=omega) only[kd,jD,ab,dP,gB,fk,mc];apply K
 (refine fc ⟨.inr rfl,rfl,aJ rfl ?_ rfl⟩;simp(disch:=omega) only[kd,jD,Tryz.results77,ab,dP,gB,tC])
noncomputable def qT (n:Nat) (f:FF):TV:=match vj n f with
 |some i=> .tup [(false,[.p (.raw (.int .i64 (i:Int)))]),(true,a4 (j1 n f i (3^i))),(false,[.p (.raw (.bool true))])]
 |none=> .tup [(false,[.p (.raw (.int .i64 0))]),(true,a4 fun _=>0),(false,[.p (.raw (.bool false))])]
theorem Ea {n:Nat} {f:FF} (i:Nat) (hi:i<n) (h: ∀a,a<i-> ¬VioP n f a) (hv:VioP n f i): ∀m j,j<=i->i<j+m->vk n f m j=some i
 |0,j,h1,h2=>by omega
 |m+1,j,h1,h2=>by
  rw[vk];by_cases e:j=i
  ·subst e;rw[if_pos hv]
  rw[if_neg (h j (by omega))];exact Ea i hi h hv m (j+1) (by omega) (by omega)
theorem Eb {n:Nat} {f:FF} (h: ∀a,a<n-> ¬VioP n f a): ∀m j,j+m<=n->vk n f m j=none
 |0,_,_=>rfl
 |m+1,j,h2=>by rw[vk,if_neg (h j (by omega))];exact Eb h m (j+1) (by omega)
structure QW (n:Nat) (f:FF) where
 i:Nat
 hi:i<=n
 ok: ∀a,a<i-> ¬VioP n f a
theorem rk (n:Nat) (f:FF) (hn1:1<=n) (hn:n<=4) (hf: ∀i j,i<n->j<n-> -1125899906842624<=f i j/\f i j<=1125899906842624):
  CallG Tryz.prog 0 138 36 [slI (mat n n f)] ip ⟨[],qT n f⟩:=by
 have hml:=bf n n f;refine fG Tryz.func36 rfl (by kernel_rfl) ?_;rw[Tryz.ntmps36];refine aR fun _ K=>?_;simp(disch:=omega) only[kd,jD,aa,slI,ae];apply K
 refine bI (aR fun _ K=>?_);simp only[kd,aa,hml];apply K;refine eg (G:=QW n f) (fun g=>⟨(slI (mat n n f)::jk::.raw (.int .i64 0)::.one (.ptr 3 0 0 0)::.raw (.bool false)::j4 (.raw (.int .i64 (n:Int))::rN g.i::j4 (j4 (j4 (jk::jk::[]))))),Hm [(3,AE fun _=>0)]⟩) (fun _=>ip) (fun g=>n-g.i) ⟨0,by omega,fun a ha=>by omega⟩ ?_ rfl ?_
 ·refine aE ⟨rfl,trivial⟩ ?_;simp[wk]
 rintro⟨i,hi,ok⟩;simp only;by_cases hm:i<n
 ·have hi4:i<4:=by omega
  have hS:=zy n f i hm hn hf;have a1:=wZ (fun _=>0) 1 hi4;rw[Nl]at a1;have h4:(∀j,j<4->j1 n f i (3^i) j=eC i j)↔ ¬VioP n f i:=by
   rw[<- Mk hm];refine⟨fun h j hj=>h j (by omega),fun h j hj=>?_⟩;rcases Nat.lt_trichotomy j i with h1|h1|h1
   ·exact h j (by omega)
   ·exact h j (by omega)
   rw[(uH n f i (3^i)).2.1 j h1];unfold eC;rw[if_neg (by omega)]
  refine aR fun _ K=>?_;simp(disch:=omega) only[kd,jD,slI];apply K
  refine gA rfl ?_;refine bI (cW ?_);refine aR fun _ K=>?_;simp only[kd];apply K
  refine aR fun _ K=>?_;simp(disch:=omega) only[kd,jD,aa,ab];apply K
  refine dJ.weak (aE (tm:=(slI (mat n n f)::jk::.raw (.int .i64 0)::.one (.ptr 3 0 0 0)::.raw (.bool false)::rN i::.one (.ptr 6 0 0 0)::jk::jk::rN n::rN i::j4 (j4 (j4 (jk::jk::[]))))) (l:=[(3,AE fun _=>0),(6,AE fun _=>0)]) ⟨rfl,rfl,trivial⟩ (by simp[wk])) ?_;refine aR fun _ K=>?_;simp(disch:=omega) only[kd,jD,aa,slI,hi4,ab,dP,ah,a1];apply K
  refine dm [⟨2,_,_,_,hS,rfl⟩] [] [] fun _ K=>?_;simp(disch:=omega) only[kd,jD,slI,tC,dU.a,aa,ke,qg,ab,dP,fk];apply K
  by_cases hv:VioP n f i
  ·have hE:Bs (a4 (j1 n f i (3^i))) (a4 (eC i))=some false:=Hk ⟨fun h=>(by cases h),fun h=>absurd (h4.1 h) (by simpa using hv)⟩;have hvi:vj n f=some i:=Ea i hm ok hv n 0 (by omega) (by omega);have eT:qT n f= .tup [(false,[.p (.raw (.int .i64 (i:Int)))]),(true,a4 (j1 n f i (3^i))),(false,[.p (.raw (.bool true))])]:=by unfold qT;rw[hvi]
   rw[eT];refine aR fun _ K=>?_;simp(disch:=omega) only[kd,jD,aa,ab,dP,gB,hE];apply K
   refine kQ rfl ?_;refine fX be (by kernel_rfl) fun _ K=>?_;simp(disch:=omega) only[kd,jD,aa,ab,dP,gB,fk,mc];apply K
   (refine fc ⟨.inr rfl,rfl,aJ rfl ?_ rfl⟩;simp(disch:=omega) only[kd,jD,Tryz.results36,ab,dP,gB])
  have hE:Bs (a4 (j1 n f i (3^i))) (a4 (eC i))=some true:=Hk ⟨fun _=>h4.2 hv,fun _=>rfl⟩;refine aR fun _ K=>?_;simp(disch:=omega) only[kd,jD,aa,ab,dP,gB,hE];apply K
  refine gz rfl (eh ?_);show dJ _ _ _ _ _ _ _;refine cL fun _ K=>?_;simp(disch:=omega) only[kd,jD,aO];apply K
  refine⟨⟨i+1,by omega,fun a ha=>?_⟩,by simp only;omega,aE ⟨rfl,trivial⟩ ?_,rfl⟩
  ·by_cases e:a=i
   ·subst e;exact hv
   exact ok a (by omega)
  simp[wk]
 have hin:i=n:=by omega
 have hvi:vj n f=none:=Eb (fun a ha=>ok a (by omega)) n 0 (by omega);have eT:qT n f= .tup [(false,[.p (.raw (.int .i64 0))]),(true,a4 fun _=>0),(false,[.p (.raw (.bool false))])]:=by unfold qT;rw[hvi]
 rw[eT];subst hin;refine aR fun _ K=>?_;simp(disch:=omega) only[kd,jD,slI];apply K
 refine jf rfl ?_;show dJ _ _ _ _ _ _ _;refine aR fun _ K=>?_;simp(disch:=omega) only[kd,jD,aa,dP,mc];apply K
 (refine fc ⟨.inr rfl,rfl,aJ rfl ?_ rfl⟩;simp(disch:=omega) only[kd,jD,Tryz.results36,aa,a4])
def wS (M:List (List Int)):Prop:=vo M/\MinkP (ent M) M.length
structure QJ (M:List (List Int)) where
 i:Nat
 hi:i+1<=M.length
 ok: ∀a,a<i->ent M a a<=ent M (a+1) (a+1)/\0<=ent M a (a+1)
theorem iW (M:List (List Int)) (r:Bool) (hr:r=true↔wS M):
  CallG Tryz.prog 0 138 14 [slI M] ip ⟨[],.raw (.bool r)⟩:=by
 by_cases hF:vo M
 ·have hI:=vY M true (by simp[hF]);have hn1:=hF.1.1;have hn4:=hF.1.2;have eM:M=mat M.length M.length (ent M):=rT (M:=M) (m:=M.length) fun q hq=>(hF.2.1 q hq).1
  have hV:=rk M.length (ent M) hn1 hn4 fun i j hi hj=>hF.entB hi hj
  rw[<- eM]at hV;refine fG Tryz.func14 rfl (by kernel_rfl) ?_;rw[Tryz.ntmps14];refine aR fun _ K=>?_;simp only[kd,slI,ae];apply K
  refine bI (fD [⟨1,_,_,_,hI⟩] [] fun _ K=>?_);simp only[kd,slI,aa];apply K;refine gz rfl (eh ?_);show dJ _ _ _ _ _ _ _;refine bI (aR fun _ K=>?_);simp(disch:=omega) only[kd,jD,aa,aO];apply K;have en:(M.length:Int)-1=((M.length-1:Nat):Int):=by omega
  refine eg (G:=QJ M) (fun g=>⟨(slI M::jk::.raw (.bool false)::j4 (j4 (jk::.raw (.int .i64 ((M.length-1:Nat):Int))::rN g.i::j16 (j16 (j4 (jk::jk::jk::[])))))),Hm []⟩) (fun _=>ip) (fun g=>M.length-g.i) ⟨0,hn1,fun a ha=>by omega⟩ ?_ rfl ?_
  ·refine aE trivial ?_;simp[wk,en]
  rintro⟨i,hi,ok⟩;simp only;by_cases hm:i+1<M.length
  ·have m1:=bv M.length (ent M) (show i<M.length by omega);have m2:=bv M.length (ent M) hm;rw[<- eM]at m1 m2;have c1:=aT (ent M i) (show i<M.length by omega);have c2:=aT (ent M (i+1)) hm;have c3:=aT (ent M i) hm;have e1:((i:Int)+1).toNat=i+1:=by omega
   by_cases hd:ent M (i+1) (i+1)<ent M i i
   ·have hr0:r=false:=by
     cases r with
     |false=>rfl
     |true=>have:=((hr.1 rfl).2.1 i hm).1;omega
    subst hr0;refine aR fun _ K=>?_;simp(disch:=omega) only[kd,jD,slI];apply K
    refine gA rfl ?_;refine bI (cW ?_);refine aR fun _ K=>?_;simp only[kd];apply K
    refine fX be (by kernel_rfl) fun _ K=>?_;simp(disch:=omega) only[kd,jD,aa,m1,fR,c1,aO,e1,m2,c2,reduceCtorEq];apply K
    refine kQ rfl ?_;refine aR fun _ K=>?_;simp only[kd];apply K
    (refine fc ⟨.inr rfl,rfl,aJ rfl ?_ rfl⟩;simp(disch:=omega) only[kd,jD,Tryz.results14])
   by_cases hs:ent M i (i+1)<0
   ·have hr0:r=false:=by
     cases r with
     |false=>rfl
     |true=>have:=((hr.1 rfl).2.1 i hm).2;omega
    subst hr0;refine aR fun _ K=>?_;simp(disch:=omega) only[kd,jD,slI];apply K
    refine gA rfl ?_;refine bI (cW ?_);refine aR fun _ K=>?_;simp only[kd];apply K
    refine fX be (by kernel_rfl) fun _ K=>?_;simp(disch:=omega) only[kd,jD,aa,m1,fR,c1,aO,e1,m2,c2,c3];apply K
    refine kQ rfl ?_;refine aR fun _ K=>?_;simp only[kd];apply K
    (refine fc ⟨.inr rfl,rfl,aJ rfl ?_ rfl⟩;simp(disch:=omega) only[kd,jD,Tryz.results14])
   refine aR fun _ K=>?_;simp(disch:=omega) only[kd,jD,slI];apply K
   refine gA rfl ?_;refine bI (cW ?_);refine aR fun _ K=>?_;simp only[kd];apply K
   refine fX be (by kernel_rfl) fun _ K=>?_;simp(disch:=omega) only[kd,jD,aa,m1,fR,c1,aO,e1,m2,c2,c3];apply K
   refine gz rfl (eh ?_);show dJ _ _ _ _ _ _ _;refine cL fun _ K=>?_;simp(disch:=omega) only[kd,jD,aO];apply K
   refine⟨⟨i+1,by omega,fun a ha=>?_⟩,by simp only;omega,aE trivial ?_,rfl⟩
   ·by_cases e:a=i
    ·subst e;exact⟨by omega,by omega⟩
    exact ok a (by omega)
   simp[wk]
  refine aR fun _ K=>?_;simp(disch:=omega) only[kd,jD,slI];apply K
  refine jf rfl ?_;show dJ _ _ _ _ _ _ _;cases hv:vj M.length (ent M)with
  |none=>
   have hr1:r=true:=hr.2 ⟨hF,fun a ha=>ok a (by omega),fun a ha=>qS _ 0 hv a (by omega) (by omega)⟩;subst hr1;have eT:qT M.length (ent M)= .tup [(false,[.p (.raw (.int .i64 0))]),(true,a4 fun _=>0),(false,[.p (.raw (.bool false))])]:=by unfold qT;rw[hv]
   rw[eT]at hV;refine dm [⟨1,_,_,_,hV,rfl⟩] [] [] fun _ K=>?_;simp(disch:=omega) only[kd,jD,slI,dU.a,aa,ke,qg,dP,fk];apply K
   refine aR fun _ K=>?_;simp only[kd,aa];apply K
   (refine fc ⟨.inr rfl,rfl,aJ rfl ?_ rfl⟩;simp(disch:=omega) only[kd,jD,Tryz.results14])
  |some k=>
   obtain⟨_,k1,k2,_⟩:=jd _ 0 k hv;have hr0:r=false:=by
    cases r with
    |false=>rfl
    |true=>exact absurd k2 ((hr.1 rfl).2.2 k (by omega))
   subst hr0;have eT:qT M.length (ent M)= .tup [(false,[.p (.raw (.int .i64 (k:Int)))]),(true,a4 (j1 M.length (ent M) k (3^k))),(false,[.p (.raw (.bool true))])]:=by unfold qT;rw[hv]
   rw[eT]at hV;refine dm [⟨1,_,_,_,hV,rfl⟩] [] [] fun _ K=>?_;simp(disch:=omega) only[kd,jD,slI,dU.a,aa,ke,qg,dP,fk];apply K
   refine aR fun _ K=>?_;simp only[kd,aa];apply K
   (refine fc ⟨.inr rfl,rfl,aJ rfl ?_ rfl⟩;simp(disch:=omega) only[kd,jD,Tryz.results14])
 have hr0:r=false:=by
  cases r with
  |false=>rfl
  |true=>exact absurd (hr.1 rfl).1 hF
 subst hr0;have hI:=vY M false (by simp[hF]);refine fG Tryz.func14 rfl (by kernel_rfl) ?_;rw[Tryz.ntmps14];refine aR fun _ K=>?_;simp only[kd,slI,ae];apply K
 refine bI (fD [⟨1,_,_,_,hI⟩] [] fun _ K=>?_);simp only[kd,slI,aa];apply K;refine kQ rfl ?_;refine aR fun _ K=>?_;simp only[kd];apply K
 (refine fc ⟨.inr rfl,rfl,aJ rfl ?_ rfl⟩;simp(disch:=omega) only[kd,jD,Tryz.results14])
section
open Go.ChangeShapes Go.WideShapes Go.ChangeAt Go.WideMaps Go.WideElems Go.RowKit
theorem Pq : Tryz.prog.globalNamed "quadform/minkowski.conditions" = some 0 := by kernel_rfl
theorem PJ:(Tryz.prog.globals[0]?).map (·.type)=some 138:=by kernel_rfl
abbrev rj : List (String × DataW Unit) := [("quadform/minkowski.conditions", Rows.laid_quadform_minkowski_conditions)]
theorem rb {W:World} (h:laidMetH Tryz.prog rj W):wP 0 138 ip W:=by
 rw[MakeChecks.laidMetH_plain _ _ _ (by kernel_rfl)]at h;obtain⟨ps,⟨g0,t0,cs0,f0,p0,q0,hg0,ht0,hv0,hd0,_,_⟩,_,_⟩:=h;obtain rfl:=Option.some.inj (Pq.symm.trans hg0);obtain rfl:=Option.some.inj (PJ.symm.trans ht0);obtain⟨xs,m1,rfl,hx1,hlen,hn3,hel⟩:=DataW.trod_array Tryz.underlying138 hd0;have c3:Tryz.prog.cellsOf 3=1:=by kernel_rfl
 have c4:Tryz.prog.cellsOf 138=4:=by kernel_rfl
 rw[c4]at hlen;have hcell: ∀i,i<4-> ∃k:Int,cs0[i]?=some (.int .i64 k)/\(xs[i]?).map (·.1)=some (.lit (.int .i64 k)):=fun i hi=>by
  have h1:=hel i hi;rw[c3,Nat.mul_one]at h1;obtain⟨y,hy⟩: ∃y,xs[i]?=some y:=⟨xs[i]'(by omega),List.getElem?_eq_getElem (by omega)⟩;rw[hy]at h1;obtain⟨k,e1,e2,_⟩:=DataW.trod_int Tryz.underlying3 h1;refine⟨k,?_,by rw[hy,e2];rfl⟩;have h2:=congrArg (fun l=>l[0]?) e1;simp only[List.getElem?_take,List.getElem?_drop,Nat.add_zero]at h2;simpa using h2
 have hx:xs.map (·.1)=[.lit (.int .i64 1),.lit (.int .i64 3),.lit (.int .i64 9),.lit (.int .i64 27)]:=by
  simp only[Prod.mk.injEq,Rows.laid_quadform_minkowski_conditions,DataW.agg.injEq]at hx1;exact hx1.1.symm
 have hat: ∀(i:Nat) (k:Int),i<4->(xs.map (·.1))[i]?=some (.lit (.int .i64 k))->W.cell? ⟨0,i,none⟩=some (.int .i64 k):=fun i k hi hk=>by
  obtain⟨k',h1,h2⟩:=hcell i hi;rw[ay,h2]at hk;have:k'=k:=by simpa using hk
  subst this;rw[World.var?_cell hg0 hv0 i,h1]
 rw[hx]at hat;have a0:=hat 0 1 (by omega) rfl;have a1:=hat 1 3 (by omega) rfl;have a2:=hat 2 9 (by omega) rfl;have a3:=hat 3 27 (by omega) rfl;refine⟨nd a0,fun j x hx=>?_⟩
 match j,hx with
 |0,hx=>simp at hx;exact⟨_,hx.symm,a0,rfl⟩
 |1,hx=>simp at hx;exact⟨_,hx.symm,a1,rfl⟩
 |2,hx=>simp at hx;exact⟨_,hx.symm,a2,rfl⟩
 |3,hx=>simp at hx;exact⟨_,hx.symm,a3,rfl⟩
 |j+4,hx=>simp at hx
theorem yY (os:Os) (args:Array Value):laidMetH Tryz.prog rj ((World.doorLaid Tryz.prog 400 os).forCall (fun _ _=>0) ⟨#[],args,[]⟩).memory:=
 laidMetH_of_parts3 (fuel:=8) (laidMet_of_run' 8 (by kernel_rfl) (by kernel_rfl)) (by kernel_rfl) (by kernel_rfl)
theorem CallG.law {P:Program} {b:Nat} {ty:TypeId} {f:FuncId} {args:List TV} {cs:List PV} {r:Bool} (h:CallG P b ty f args cs ⟨[],.raw (.bool r)⟩) {w:World} (hb:wP b ty cs w) {vs:Array Value} (hvs:vs.size=args.length)
  (ha: ∀(j:Nat) t,args[j]?=some t-> ∃v:Value,vs[j]?=some v/\t.rel (fun _ _=>none) (fun _=>[]) (fun _=>False) w v):Calls P f vs w fun e w'=>e= .returned (.bool r)/\Ext w w':=
 ((h.2 w hb).2 (fun _=>False) vs (fun b h=>h.elim) hvs ha).mono fun e w' ⟨v,h1,ρ,h2,h3⟩=>⟨by rw[h1,lI h3],zj h2.keep⟩
end
section
variable {n:Nat}
theorem Ni {x:Int} {A:Nat} (h:x*x<=(A:Int)*(A:Int)): -(A:Int)<=x/\x<=(A:Int):=by
 have h1:x.natAbs*x.natAbs<=A*A:=by
  have e:((x.natAbs*x.natAbs:Nat):Int)=x*x:=Int.natAbs_mul_self;have:((x.natAbs*x.natAbs:Nat):Int)<=((A*A:Nat):Int):=by rw[e,Int.natCast_mul];exact h
  exact Int.ofNat_le.1 this
 have h2:x.natAbs<=A:=by
  rcases Nat.lt_or_ge A x.natAbs with hl|hl
  ·have:=Nat.mul_lt_mul'' hl hl;omega
  exact hl
 omega
theorem Cb {h:FF} (hn1:1<=n) (hn:n<=4) (hr:RedR h n) {x:Nat->Int} (hx:nrm n h x<=262144): ∀j,j<n-> -549755813888<=x j/\x j<=549755813888:=fun j hj=>by
 have h1:=G5 (B:=262144) hr.pd hj (fun a b ha hb=>by have:=i5 hn1 (by omega) hr a ha b hb;omega) x hx;have h2:(n*262144)^(n-1)<=1048576^3:=by
  have:n*262144<=1048576:=by omega
  exact Nat.le_trans (Nat.pow_le_pow_left this _) (Nat.pow_le_pow_right (by omega) (by omega))
 have h3:(((n*262144)^(n-1):Nat):Int)<=1152921504606846976:=by
  have e:1048576^3=1152921504606846976:=by decide
  rw[e]at h2;omega
 refine Ni (A:=549755813888) ?_;generalize(((n*262144)^(n-1):Nat):Int)=q at*
 omega
theorem mt {h B:FF} {W:Int} (hp:PD h n) (hB:InB2 n h W B) {a b:Nat} (ha:a<n) (hb:b<n) (A:Nat) (hW:W<=(A:Int)): -(A:Int)<=gmB n h B a b/\gmB n h B a b<=(A:Int):=by
 refine Ni ?_;have h1:=hp.schwarz (B a) (B b);have h2:=hB.nr a ha;have h3:=hB.nr b hb;have h4:=(hp.pos (B a)).1;have h5:=(hp.pos (B b)).1;unfold nrm at h2 h3;unfold gmB;have h6:BF n h (B a) (B a)*BF n h (B b) (B b)<=(A:Int)*(A:Int):=Int.mul_le_mul (by omega) (by omega) h5 (by omega);omega
theorem InB2.one {h:FF} (hn1:1<=n) (hn:n<=8) (hr:RedR h n):InB2 n h 262144 (fun a b=>if a=b then 1 else 0):=by
 refine⟨fun a ha=>?_,?_⟩
 ·have e:(fun b=>if a=b then(1:Int)else 0)=eC a:=by funext b;unfold eC;by_cases h:a=b<;>simp[h,eq_comm]<;>omega
  show nrm n h (fun b=>if a=b then 1 else 0)<=_;rw[e,jX ha];have:=i5 hn1 hn hr a ha a ha;omega
 have e:trF (fun a b=>if a=b then(1:Int)else 0)=fun i j=>if i=j then 1 else 0:=by
  funext i j;unfold trF;by_cases h:i=j<;>simp[h,eq_comm]<;>omega
 rw[e,Hc];rfl
theorem InB2.sg {h B:FF} {W:Int} (g:FF) (hB:InB2 n h W B):InB2 n h W (rF g B):=by
 refine⟨fun a ha=>?_,?_⟩
 ·have:=hB.nr a ha;have e:nrm n h (rF g B a)=nrm n h (B a):=by
   have h1:gmB n h (rF g B) a a=gmB n h B a a:=by
    rw[Hu];unfold Kk;rcases lO g a with e|e<;>rw[e]<;>omega
   exact h1
  rw[e];exact this
 have h1:=Js (g:=g) (B:=B) n (Nat.le_refl n);rw[<- hB.dt,<- h1]
 congr 1
 exact jj fun i j _ hj=>by show lN g j*B j i=if j<n then _ else _;rw[if_pos hj]
theorem rl {h:FF} (hn1:1<=n) (hn:n<=4) (hr:RedR h n): ∃R,RchB n h (fun a b=>if a=b then 1 else 0) R/\InB2 n h 262144 R/\InB2 n h 262144 (rF (gmB n h R) R)/\MinkP (gmB n h (rF (gmB n h R) R)) n:=by
 have h1:=InB2.one hn1 (by omega) hr;obtain⟨R,hR⟩:=zT hr.pd _ _ rfl h1;obtain⟨e1,e2,e3⟩:=pG hR h1;exact⟨R,hR,e1,e1.sg _,tJ e2 e3⟩
theorem InB2.pd {h B:FF} {W:Int} (hp:PD h n) (hB:InB2 n h W B):PD (gmB n h B) n:=by
 rw[nk];exact hp.cng (by have:=hB.dt;omega)
end
/-! Inner products of rows. -/
theorem pI {n:Nat} {h:FF} (hn1:1<=n) (hn:n<=8) (hr:RedR h n):bW (mat n n h)=true:=
 (fg _).2 ((sA hn1).2 ⟨rfl,hn,hr⟩)
theorem kj {n:Nat} {X:Nat->Int} (hx: ∀j,j<n-> -1099511627776<=X j/\X j<=1099511627776):FitB n (bA n X)=true:=by
 refine ik.2 ⟨bs n X,?_⟩;unfold Ga;rw[List.all_eq_true];intro c hc;obtain⟨j,hj⟩:=List.mem_iff_getElem?.1 hc;have hjn:j<n:=by
  have:=(List.getElem?_eq_some_iff.1 hj).1;rwa[bs]at this
 rw[aT _ hjn]at hj;injection hj with hj
 have:=hx j hjn;rw[hj]at this;simp[this]
theorem gW (n:Nat) (X:Nat->Int):(bA n X).take n=bA n X:=List.take_of_length_le (by rw[bs];omega)
theorem Ds {n:Nat} {h:FF} {X Y:Nat->Int} (hn1:1<=n) (hn:n<=8) (hr:RedR h n) (hx: ∀j,j<n-> -1099511627776<=X j/\X j<=1099511627776) (hy: ∀j,j<n-> -1099511627776<=Y j/\Y j<=1099511627776):
  eA (bA n X) (dw (mat n n h) (bA n Y)) (bA n X).length=BF n h X Y:=by
 have e:=Bz (x:=bA n X) (y:=bA n Y) (pI hn1 hn hr) (by rw[bf];exact kj hx) (by rw[bf];exact kj hy);rw[e,bf];exact ee (fun i j hi hj=>rO h hi hj) (fun i hi=>wy X hi) (fun i hi=>wy Y hi)
theorem tw {n:Nat} {h:FF} {X Y:Nat->Int} (hn1:1<=n) (hn:n<=8) (hr:RedR h n) (hx: ∀j,j<n-> -1099511627776<=X j/\X j<=1099511627776) (hy: ∀j,j<n-> -1099511627776<=Y j/\Y j<=1099511627776)
  (hb: -4611686018427387904<=BF n h X Y/\BF n h X Y<=4611686018427387904):EY (mat n n h) (bA n X) (bA n Y)=FV (BF n h X Y) true:=by
 unfold EY;rw[if_pos ⟨by unfold j6;rw[pI hn1 hn hr,bf,kj hx];rfl,by rw[bf];exact kj hy⟩,Ds hn1 hn hr hx hy];exact if_pos hb
def GdR (n:Nat) (h:FF) (x:Nat->Int):Prop:=nrm n h x<=262144
theorem GdR.co {n:Nat} {h:FF} {x:Nat->Int} (hn1:1<=n) (hn:n<=4) (hr:RedR h n) (hg:GdR n h x): ∀j,j<n-> -1099511627776<=x j/\x j<=1099511627776:=fun j hj=>by
 have:=Cb hn1 hn hr hg j hj;omega
theorem GdR.nn {n:Nat} {h:FF} {x:Nat->Int} (hr:RedR h n):0<=nrm n h x:=(hr.pd.pos x).1
abbrev iS (M:List (List Int)):List PV:=[.sl (ls (fR fI) M)]
theorem NR {n:Nat} {h:FF} {X Y:Nat->Int} (hn1:1<=n) (hn:n<=4) (hr:RedR h n) (hx:GdR n h X) (hy:GdR n h Y):
  CallC Tryz.prog 92 [iP (bA n X),iP (bA n Y),.one (.p (.ptr (iS (mat n n h))))] ⟨[],.raw (.int .i64 (nrm n h X-nrm n h Y))⟩:=by
 have a0:0<=nrm n h X:=GdR.nn hr;have b0:0<=nrm n h Y:=GdR.nn hr;have a1:nrm n h X<=262144:=hx;have b1:nrm n h Y<=262144:=hy;have c1:=DQ (mat n n h) (bA n X);have c2:=DQ (mat n n h) (bA n Y);rw[tw hn1 (by omega) hr (hx.co hn1 hn hr) (hx.co hn1 hn hr) (by show _<=nrm n h X/\nrm n h X<=_;omega),show BF n h X X=nrm n h X from rfl]at c1;rw[tw hn1 (by omega) hr (hy.co hn1 hn hr) (hy.co hn1 hn hr) (by show _<=nrm n h Y/\nrm n h Y<=_;omega),show BF n h Y Y=nrm n h Y from rfl]at c2;refine aI Tryz.func92 rfl (by kernel_rfl) ?_;rw[Tryz.ntmps92];refine aD fun _ K=>?_;simp only[kd,iP,aa,ae];apply K
 refine aG [⟨2,_,_,_,c1⟩] [] fun _ K=>?_;simp only[kd,slI,iP,FV,aa];apply K
 refine aG [⟨2,_,_,_,c2⟩] [] fun _ K=>?_;simp only[kd,slI,iP,FV,aa];apply K
 refine aD fun _ K=>?_;simp(disch:=omega) only[kd,jD,aa,aO];apply K
 (refine aH ⟨.inr rfl,aJ rfl ?_ rfl⟩;simp(disch:=omega) only[kd,jD,Tryz.results92])
/-! Rows that change their places. -/
theorem zD {d n p k:Nat} (g:FF) (hp:p<n) (hk:k<n) (hne:k≠p) (r:Nat):(mxI d n n (swp p k g))[r]?=
  (((⟨27,1,((gh d (ae n n)).set p [.sl d (k+1) 0 n]).set k [.sl d (p+1) 0 n]⟩::(mat n n g).map jB:List OObj))[sw (p+1) (k+1) r]?).map (uV d (p+1) (k+1)):=by
 cases r with
 |zero=>
  rw[show sw (p+1) (k+1) 0=0 by simp[sw]];simp only[List.getElem?_cons_zero,Option.map_some,uV]
  congr 2
  apply List.ext_getElem?;intro i;rw[ay,List.getElem?_set,List.getElem?_set,List.length_set,cf,List.length_replicate];by_cases hi:i<n
  ·rw[bK d n hi];by_cases h1:k=i
   ·subst h1;simp[hi,jw,nZ,sw]
   by_cases h2:p=i
   ·subst h2;simp[h1,hi,jw,nZ,sw]
   have h1': ¬i=k:=fun e=>h1 e.symm
   have h2': ¬i=p:=fun e=>h2 e.symm
   simp[h1,h2,h1',h2',jw,nZ,sw]
  have h1: ¬k=i:=by omega
  have h2: ¬p=i:=by omega
  rw[if_neg h1,if_neg h2,List.getElem?_eq_none (by rw[cf,List.length_replicate];omega)];rfl
 |succ r=>
  have hsw:sw (p+1) (k+1) (r+1)=sw p k r+1:=by
   unfold sw;by_cases h1:r=p
   ·simp[h1]
   by_cases h2:r=k
   ·simp[h1,h2,hne]
   simp[h1,h2]
  have hO: ∀l:List Int,uV d (p+1) (k+1) (jB l)=jB l:=fun l=>by
   simp only[uV,jB,lc,List.map_map]
   congr 1
  rw[hsw,List.getElem?_cons_succ,List.getElem?_cons_succ,ay,ay];by_cases hr:r<n
  ·have hs:sw p k r<n:=by unfold sw;split<;>(try split)<;>omega
   rw[bv _ _ hr,bv _ _ hs];simp only[Option.map_some,hO]
   congr 3
   unfold swp sw;by_cases h1:r=p
   ·simp[h1]
   by_cases h2:r=k
   ·simp[h1,h2,hne]
   simp[h1,h2]
  have hs: ¬sw p k r<n:=by unfold sw;rw[if_neg (by omega),if_neg (by omega)];exact hr
  rw[List.getElem?_eq_none (by rw[bf];omega),List.getElem?_eq_none (by rw[bf];omega)];rfl
theorem ko (n c:Nat) (f:FF): ∀o∈mxI 0 n c f,selfO 0 o:=fun o ho e he x hx=>by
 simp only[List.mem_cons,List.mem_map]at ho;rcases ho with rfl|⟨r,_,rfl⟩
 ·obtain⟨k,hk⟩:=List.mem_iff_getElem?.1 he;have hkn:k<n:=by
   have:=(List.getElem?_eq_some_iff.1 hk).1;simpa[cf] using this
  simp only at hk;rw[bK 0 c hkn]at hk;injection hk with hk
  subst hk;simp at hx;subst hx;rfl
 exact dv (d7 _ _ _) e he x hx
theorem tK (n c:Nat) (f g:FF): ∃o o',(mxI 0 n c f)[0]?=some o/\(mxI 0 n c g)[0]?=some o'/\o.elems.length=n/\o'.elems.length=n/\o'.es=o.es:=
 ⟨_,_,rfl,rfl,by simp[cf],by simp[cf],rfl⟩
structure P5 (n:Nat) (h:FF) (i:Nat) (T:FF) where
 j:Nat
 C:Nat->Nat->Int
 hj:j<=i
 he:insB (nrm n h) C j=T
 ok: ∀a,a<n->GdR n h (C a)
structure Qe (n:Nat) where
 i:Nat
 h1:1<=i
 hi:i<=n
theorem EZ (n:Nat) (h B:FF) (hn1:1<=n) (hn:n<=4) (hr:RedR h n) (hB: ∀a,a<n->GdR n h (B a)):
  qW Tryz.prog 151 [jk,.raw (.int .i64 0),.raw (.int .i64 (n:Int)),.fn 92 [.p (.ptr (iS (mat n n h)))]] 0 n (mxI 0 n n B) (mxI 0 n n (kE (nrm n h) B n)) .undef:=by
 have hall:=fun i hi=>pS (n:=n) (nrm n h) (Q:=GdR n h) (B:=B) hB i hi
 refine sV Tryz.func151 rfl (by kernel_rfl) (by simp) hn1 (tK _ _ _ _) rfl ?_;rw[Tryz.ntmps151];refine eF.weak (aE (tm:=(.one (.sl 0 0 0 n)::.raw (.int .i64 0)::rN n::.fn 92 [.p (.ptr (iS (mat n n h)))]::j16 (j16 (j16 (jk::[]))))) (l:=[(0,mxI 0 n n B)]) ⟨rfl,trivial⟩ (by simp[wk,ae])) ?_;refine aV (by kernel_rfl) fun _ K=>?_;simp(disch:=omega) only[kd,jD,aa,aO];apply K
 refine fF (G:=Qe n) (fun g=>⟨(.one (.sl 0 0 0 n)::.raw (.int .i64 0)::rN n::.fn 92 [.p (.ptr (iS (mat n n h)))]::j4 (.raw (.int .i64 (g.i:Int))::j16 (j16 (j4 (j4 (j4 ([]))))))),Hm [(0,mxI 0 n n (kE (nrm n h) B g.i))]⟩) (fun g=>n-g.i) ⟨1,by omega,hn1⟩ ?_ ?_
 ·refine aE ⟨rfl,trivial⟩ ?_;simp[wk]
 rintro⟨i,hi1,hi⟩;simp only;by_cases hm:i<n
 ·refine bT (aV (by kernel_rfl) fun _ K=>?_);simp(disch:=omega) only[kd,jD,aa];apply K;refine jg rfl (ff ?_);refine bT (dX ?_);refine aV (by kernel_rfl) fun _ K=>?_;simp only[kd];apply K
  refine fF (G:=P5 n h i (kE (nrm n h) B (i+1))) (fun g=>⟨(.one (.sl 0 0 0 n)::.raw (.int .i64 0)::rN n::.fn 92 [.p (.ptr (iS (mat n n h)))]::j4 (.raw (.int .i64 (i:Int))::rN g.j::j16 (j16 (j4 (j4 (jk::jk::jk::[])))))),Hm [(0,mxI 0 n n g.C)]⟩) (fun g=>g.j) ⟨i,kE (nrm n h) B i,Nat.le_refl _,rfl,hall i (by omega)⟩ ?_ ?_
  ·refine aE ⟨rfl,trivial⟩ ?_;simp[wk]
  rintro⟨j,C,hj,he,ok⟩;simp only;cases j with
  |zero=>
   have he:C=kE (nrm n h) B (i+1):=he;refine bT (fY be (by kernel_rfl) (by kernel_rfl) fun _ K=>?_);simp(disch:=omega) only[kd,jD,aa];apply K;refine gQ rfl (fE ?_);show eF _ _ _ _ _;refine df (by kernel_rfl) fun _ K=>?_;simp(disch:=omega) only[kd,jD,aa,aO];apply K
   refine⟨⟨i+1,by omega,by omega⟩,by simp only;omega,aE ⟨?_,trivial⟩ ?_⟩
   ·rw[<- he];rfl
   simp[wk]
  |succ j=>
   have hC:=NR hn1 hn hr (ok (j+1) (by omega)) (ok j (by omega));have e0:IntKind.i64.wrap (((j+1:Nat):Int)-1)=(j:Int):=by rw[show((j+1:Nat):Int)-1=(j:Int) by omega];exact aO (by omega) (by omega)
   have g1:=bK (n:=n) (i:=j+1) 0 n (by omega);have g2:=bK (n:=n) (i:=j) 0 n (by omega);have r1:=cd n C (i:=j+1) (show j+1<n by omega);have r2:=cd n C (i:=j) (show j<n by omega);have gt:(0:Int)<((j+1:Nat):Int):=by omega
   by_cases hlt:nrm n h (C (j+1))<nrm n h (C j)
   ·rw[insB,if_pos hlt]at he;have hneg:nrm n h (C (j+1))-nrm n h (C j)<0:=by omega
    refine bT (m0 be [⟨14,_,_,_,hC⟩] [] (by kernel_rfl) (by kernel_rfl) fun _ K=>?_);simp(disch:=omega) only[kd,jD,iP,aa,gt,g1,e0,g2,r1,gW,r2,hneg];apply K;refine jg rfl (ff ?_);refine bT (dX ?_);have hsw:=zD (d:=0) C (show j+1<n by omega) (show j<n by omega) (by omega);have g4:((gh 0 (ae n n)).set (j+1) [.sl 0 (j+1) 0 n])[j]?=some [.sl 0 (j+1) 0 n]:=by
     rw[List.getElem?_set_ne (by omega),g2]
    refine AP be (by kernel_rfl) (by kernel_rfl) fun _ K=>?_;simp(disch:=omega) only[kd,jD,aa,e0,g2,g1,g4,ah,reduceCtorEq];apply K
    show eF _ _ _ _ _;refine eF.weak ((oW 0 (j+1+1) (j+1) (mxI 0 n n (swp (j+1) j C)) hsw).trans (aE (tm:=(.one (.sl 0 0 0 n)::.raw (.int .i64 0)::rN n::.fn 92 [.p (.ptr (iS (mat n n h)))]::j4 (.raw (.int .i64 (i:Int))::.raw (.int .i64 ((j+1:Nat):Int))::j16 (j16 (j4 (j4 (jk::jk::jk::[]))))))) (l:=[(0,mxI 0 n n (swp (j+1) j C))]) ⟨rfl,trivial⟩ (by simp[wk,Ct,jw,nZ,sw]))) ?_;refine df (by kernel_rfl) fun _ K=>?_;simp only[kd,aa,e0];apply K
    refine⟨⟨j,swp (j+1) j C,by omega,he,fun a ha=>?_⟩,by simp only;omega,aE ⟨rfl,trivial⟩ ?_⟩
    ·unfold swp;split
     ·exact ok j (by omega)
     split
     ·exact ok (j+1) (by omega)
     exact ok a ha
    simp[wk]
   rw[insB,if_neg hlt]at he;have hneg: ¬nrm n h (C (j+1))-nrm n h (C j)<0:=by omega
   refine bT (m0 be [⟨14,_,_,_,hC⟩] [] (by kernel_rfl) (by kernel_rfl) fun _ K=>?_);simp(disch:=omega) only[kd,jD,iP,aa,gt,g1,e0,g2,r1,gW,r2,hneg];apply K;refine gQ rfl (fE ?_);show eF _ _ _ _ _;refine df (by kernel_rfl) fun _ K=>?_;simp(disch:=omega) only[kd,jD,aa,aO];apply K
   refine⟨⟨i+1,by omega,by omega⟩,by simp only;omega,aE ⟨?_,trivial⟩ ?_⟩
   ·rw[<- he];rfl
   simp[wk]
 have hin:i=n:=by omega
 subst hin;refine bT (aV (by kernel_rfl) fun _ K=>?_);simp(disch:=omega) only[kd,jD,aa];apply K;refine gQ rfl (fE ?_);refine⟨.inl rfl,_,ca.refl _,rfl,li _,rfl⟩
theorem JC (n:Nat) (h B:FF) (hn1:1<=n) (hn:n<=4) (hr:RedR h n) (hB: ∀a,a<n->GdR n h (B a)):
  qW Tryz.prog 123 [jk,.raw (.int .i64 (n:Int)),.fn 92 [.p (.ptr (iS (mat n n h)))]] 0 n (mxI 0 n n B) (mxI 0 n n (kE (nrm n h) B n)) .undef:=by
 have hI:=EZ n h B hn1 hn hr hB;refine sV Tryz.func123 rfl (by kernel_rfl) (by simp) hn1 (tK _ _ _ _) rfl ?_;rw[Tryz.ntmps123];refine eF.weak (aE (tm:=(.one (.sl 0 0 0 n)::rN n::.fn 92 [.p (.ptr (iS (mat n n h)))]::j16 (j16 (j16 (j4 (j4 (j4 ([])))))))) (l:=[(0,mxI 0 n n B)]) ⟨rfl,trivial⟩ (by simp[wk,ae])) ?_;refine aV (by kernel_rfl) fun _ K=>?_;simp only[kd];apply K
 refine aV (by kernel_rfl) fun _ K=>?_;simp only[kd,aa];apply K
 refine bT (fF (G:=Unit) (fun _=>⟨(.one (.sl 0 0 0 n)::rN n::.fn 92 [.p (.ptr (iS (mat n n h)))]::jk::jk::jk::.raw (.int .i64 20)::.raw (.int .i64 0)::.raw (.int .i64 20)::j16 (j16 (j16 (j4 (jk::jk::[]))))),Hm [(0,mxI 0 n n B)]⟩) (fun _=>0) () ?_ ?_)
 ·refine aE ⟨rfl,trivial⟩ ?_;simp[wk]
 intro _;refine bT (aV (by kernel_rfl) fun _ K=>?_);simp(disch:=omega) only[kd,jD,aa];apply K;refine gQ rfl (fE ?_);show eF _ _ _ _ _;refine AQ 4 hI 0 [] [] (by kernel_rfl) (by simp[wk]) hn1 rfl (ko _ _ _) (ko _ _ _) (by decide) (by simp[wk]) (by decide) fun K hK=>?_
 simp only[kd,aa];apply hK;clear hK K;refine⟨⟨rfl,(bU 0 0 _ _ _).symm⟩,by simp,?_⟩;intro K hK;simp only[kd,aa,NQ,cwD,kM];apply hK;clear hK K;refine fF (G:=Unit) (fun _=>⟨(.one (.sl 0 0 0 n)::rN n::.fn 92 [.p (.ptr (iS (mat n n h)))]::jk::jk::jk::.raw (.int .i64 20)::j16 (j16 (j16 (j4 (j4 ([])))))),Hm [(0,mxI 0 n n (kE (nrm n h) B n))]⟩) (fun _=>0) () ?_ ?_
 ·refine aE ⟨bU 0 0 n n _,trivial⟩ ?_;simp[wk]
 intro _;refine bT (aV (by kernel_rfl) fun _ K=>?_);simp(disch:=omega) only[kd,jD,aa];apply K;refine gQ rfl (fE ?_);refine⟨.inl rfl,_,ca.refl _,rfl,li _,rfl⟩
theorem x8 (n:Nat) (h B:FF) (hn1:1<=n) (hn:n<=4) (hr:RedR h n) (hB: ∀a,a<n->GdR n h (B a)):
  qW Tryz.prog 91 [jk,.fn 92 [.p (.ptr (iS (mat n n h)))]] 0 n (mxI 0 n n B) (mxI 0 n n (kE (nrm n h) B n)) .undef:=by
 have hI:=JC n h B hn1 hn hr hB;refine sV Tryz.func91 rfl (by kernel_rfl) (by simp) hn1 (tK _ _ _ _) rfl ?_;rw[Tryz.ntmps91];refine eF.weak (aE (tm:=(.one (.sl 0 0 0 n)::.fn 92 [.p (.ptr (iS (mat n n h)))]::j4 (jk::jk::jk::[]))) (l:=[(0,mxI 0 n n B)]) ⟨rfl,trivial⟩ (by simp[wk,ae])) ?_;refine sK 4 hI 0 [] [] (by kernel_rfl) (by simp[wk]) hn1 rfl (ko _ _ _) (ko _ _ _) (by decide) (by simp[wk]) (by decide) fun K hK=>?_
 simp only[kd,aa];apply hK;clear hK K;refine⟨⟨rfl,(bU 0 0 _ _ _).symm⟩,by simp,?_⟩;intro K hK;simp only[kd,aa,NQ,cwD,kM];apply hK;clear hK K;refine⟨.inl rfl,_,aE (tm:=(.one (.sl 0 0 0 n)::j4 (j4 ([])))) (l:=[(0,mxI 0 n n (kE (nrm n h) B n))]) ⟨bU 0 0 n n _,trivial⟩ (by simp[wk]),rfl,li _,rfl⟩
open Classical in
noncomputable def Dr (M l:List (List Int)):CallRes:=if PM M l then⟨mxI 0 l.length l.length (vG M l),rB l.length true⟩else⟨mxI 0 0 0 (vG M l),rB 0 false⟩
theorem Hw {M l:List (List Int)} (h: ¬PM M l):Dr M l=⟨mxI 0 0 0 (vG M l),rB 0 false⟩:=if_neg h
theorem vS {M l:List (List Int)} (h:PM M l):Dr M l=⟨mxI 0 l.length l.length (vG M l),rB l.length true⟩:=if_pos h
theorem Ca {fn:Func} {c:Nat} {F:FF} {b:Bool} {s:AS} (hd:s.H 500=[]) (hk:s.tmps[4]?=some (.raw (.slice none 0 0)))
  (hres:rE Tryz.prog ⟨s.tmps.set 4 (.one (.sl 500 0 0 0)),bj s.H 500 [⟨27,1,[]⟩]⟩ fn.results.toList=some (.tup [(false,[.sl 500 0 0 0]),(false,[.p (.raw (.bool b))])])):
  ∃s',ca s s'/\nX Tryz.prog fn ⟨mxI 0 0 c F,rB 0 b⟩ s':=
 ⟨_,ef (k:=4) (d:=500) 27 1 (by omega) hd hk,_,500,hres,pP (by simp[gZ,dH]) (by decide),by simp only[bE];rfl,rfl⟩
theorem LL (M l:List (List Int)) (hl:l.length<=16):CallC Tryz.prog 48 [slI M,slI l] (Dr M l):=by
 have hno:=Hw (M:=M) (l:=l);have hyes:=vS (M:=M) (l:=l);generalize Dr M l=r at*
 have cR:=pw M;cases hred:bW M with
 |false=>
  rw[hred]at cR;rw[hno (fun h=>by rw[h.1]at hred;cases hred)];refine aI Tryz.func48 rfl (by kernel_rfl) ?_;rw[Tryz.ntmps48];refine aD fun _ K=>?_;simp only[kd,slI,aa,ae];apply K
  refine aF (aG [⟨1,_,_,_,cR⟩] [] fun _ K=>?_);simp only[kd,slI,aa];apply K;refine aU rfl ?_;refine aD fun _ K=>?_;simp only[kd];apply K
  refine aH ⟨.inr rfl,Ca rfl rfl ?_⟩;simp(disch:=omega) only[kd,jD,Tryz.results48]
 |true=>
  rw[hred]at cR;obtain⟨n,hn⟩: ∃n,n=l.length:=⟨_,rfl⟩;rw[<- hn]at hyes hl;have hln:=hn.symm;refine aI Tryz.func48 rfl (by kernel_rfl) ?_;rw[Tryz.ntmps48];refine aD fun _ K=>?_;simp only[kd,slI,aa,ae];apply K
  refine aF (aG [⟨1,_,_,_,cR⟩] [] fun _ K=>?_);simp only[kd,slI,aa];apply K;refine aQ rfl (aM ?_);show bo _ _ _ _;refine aF (aD fun _ K=>?_);simp only[kd,aa,hln];apply K;refine aX (G:=P4 n (fun a=>FitB M.length (l.getD a [])=true)) (fun g=>⟨(slI M::slI l::j16 (jk::slI l::rN n::rN g.i::j16 (j16 (j16 (j16 (jk::jk::jk::[])))))),Hm []⟩) (fun g=>n-g.i) ⟨0,by omega,fun a h=>by omega⟩ ?_ ?_
  ·refine aE trivial ?_;simp[wk]
  rintro⟨i,hi,hg⟩;simp only;by_cases hm:i<n
  ·have hli:=xt (l:=l) (i:=i) (by omega);have cF:=LK M.length (l.getD i []);cases hf:FitB M.length (l.getD i [])with
   |true=>
    rw[hf]at cF;have hg': ∀a,a<i+1->FitB M.length (l.getD a [])=true:=fun a ha=>by
     by_cases h:a=i
     ·subst h;exact hf
     exact hg a (by omega)
    generalize l.getD i []=xi at*
    refine aD fun _ K=>?_;simp(disch:=omega) only[kd,jD,slI];apply K
    refine bx rfl ?_;refine aF (aK ?_);refine aD fun _ K=>?_;simp(disch:=omega) only[kd,jD,aa,hli,fR];apply K
    refine aG [⟨3,_,_,_,cF⟩] [] fun _ K=>?_;simp only[kd,iP,aa];apply K
    refine aQ rfl (aM ?_);show bo _ _ _ _;refine aL fun _ K=>?_;simp(disch:=omega) only[kd,jD,aO];apply K
    refine⟨⟨i+1,by omega,hg'⟩,by simp only;omega,aE trivial ?_⟩;simp[wk]
   |false=>
    rw[hf]at cF;have hr:=hno (fun h=>by rw[(h.2 i (by omega) i (by omega)).x]at hf;cases hf);generalize l.getD i []=xi at*
    refine aD fun _ K=>?_;simp(disch:=omega) only[kd,jD,slI];apply K
    refine bx rfl ?_;refine aF (aK ?_);refine aD fun _ K=>?_;simp(disch:=omega) only[kd,jD,aa,hli,fR];apply K
    refine aG [⟨3,_,_,_,cF⟩] [] fun _ K=>?_;simp only[kd,iP,aa];apply K
    refine aU rfl ?_;refine aD fun _ K=>?_;simp only[kd];apply K
    rw[hr];refine aH ⟨.inr rfl,Ca rfl rfl ?_⟩;simp(disch:=omega) only[kd,jD,Tryz.results48]
  have hin:i=n:=by omega
  subst hin;refine aD fun _ K=>?_;simp(disch:=omega) only[kd,jD,slI];apply K
  refine bG rfl ?_;show bo _ _ _ _;have hfit: ∀a,a<i->FitB M.length (l.getD a [])=true:=hg;clear hg;obtain⟨n,hni⟩: ∃n,n=i:=⟨_,rfl⟩;subst hni;refine aD fun _ K=>?_;simp(disch:=omega) only[kd,jD,aa,hln];apply K
  refine aF (aD fun _ K=>?_);simp only[kd,aa,hln];apply K;refine aX (G:=jA n) (fun g=>⟨(slI M::slI l::j4 (jk::jk::.one (.sl 33 0 0 n)::j16 (j4 (j4 (jk::jk::rN n::rN g.i::j16 (j16 (j16 (j4 ([]))))))))),Hm [(33,kI 33 n n g.i (fun _ _=>0))]⟩) (fun g=>n-g.i) ⟨0,by omega⟩ ?_ ?_
  ·refine aE ⟨?_,trivial⟩ ?_
   ·show[_]=_;simp[kI,gh,mat]
   simp[wk]
  rintro⟨i,hi⟩;simp only;by_cases hm:i<n
  ·have k1:=qw (i:=i) (n:=n) 33 n hm;have k2:=jo (i:=i) (n:=n) 33 n hi;have k3:=bf i n (fun _ _=>(0:Int));have k4:=np (i:=i) (n:=n) (c:=n) 33 (fun _ _=>(0:Int)) hm (fun j hj=>rfl);refine aD fun _ K=>?_;simp(disch:=omega) only[kd,jD,slI];apply K
   refine bx rfl ?_;refine aF (aK ?_);refine aD fun _ K=>?_;simp only[kd];apply K
   refine aL fun _ K=>?_;simp(disch:=omega) only[kd,jD,aa,hln,ab,k1,ah,List.length_replicate,List.all_replicate,k3,k4,Nat.reduceBEq];apply K
   show bo _ _ _ _;refine aL fun _ K=>?_;simp(disch:=omega) only[kd,jD,aO];apply K
   refine⟨⟨i+1,by omega⟩,by simp only;omega,aE ⟨?_,trivial⟩ ?_⟩
   ·first|exact k4|rfl
   simp[wk]
  have hin:i=n:=by omega
  subst hin;refine aD fun _ K=>?_;simp(disch:=omega) only[kd,jD,slI];apply K
  refine bG rfl ?_;show bo _ _ _ _;rw[oA];obtain⟨n,hni⟩: ∃n,n=i:=⟨_,rfl⟩;subst hni;refine aF (aD fun _ K=>?_);simp only[kd,aa,hln];apply K;refine aX (G:=P4 n (fun a=> ∀b,b<=a->PG M l a b)) (fun g=>⟨(slI M::slI l::j4 (jk::jk::.one (.sl 33 0 0 n)::j16 (j16 (j4 (jk::slI l::rN n::rN g.i::j16 (j16 (j4 (j4 ([]))))))))),Hm [(33,mxI 33 n n (Bv (vG M l) g.i 0))]⟩) (fun g=>n-g.i) ⟨0,by omega,fun a h=>by omega⟩ ?_ ?_
  ·refine aE ⟨?_,trivial⟩ ?_
   ·show _::_=_::_;rw[ch fun a b _ _=>(Ht (vG M l) a b).symm]
   simp[wk]
  rintro⟨i,hi,hg⟩;simp only;by_cases hm:i<n
  ·have hli:=xt (l:=l) (i:=i) (by omega);have cA:=IL M (l.getD i []) hred (hfit i hm);refine aD fun _ K=>?_;simp(disch:=omega) only[kd,jD,slI];apply K
   refine bx rfl ?_;refine aF (aK ?_);refine aD fun _ K=>?_;simp(disch:=omega) only[kd,jD,aa,hli,fR];apply K
   refine aG [⟨2,_,_,_,cA⟩] [] fun _ K=>?_;simp only[kd,slI,iP,aa];apply K
   refine aD fun _ K=>?_;simp(disch:=omega) only[kd,jD,aa,aO];apply K
   refine aX (G:=P4 (i+1) (fun b=>PG M l i b)) (fun g=>⟨(slI M::slI l::j4 (jk::jk::.one (.sl 33 0 0 n)::jk::rN i::jk::iP (dw M (l.getD i []))::j16 (j16 (jk::slI l::rN n::rN i::j4 (j4 (.raw (.int .i64 ((i+1:Nat):Int))::rN g.i::j16 (j4 (j4 (j4 (jk::jk::[])))))))))),Hm [(33,mxI 33 n n (Bv (vG M l) i g.i))]⟩) (fun g=>i+1-g.i) ⟨0,by omega,fun a h=>by omega⟩ ?_ ?_
   ·refine aE ⟨rfl,trivial⟩ ?_;simp[wk]
   rintro⟨j,hj,hh⟩;simp only;by_cases hm2:j<i+1
   ·have hlj:=xt (l:=l) (i:=j) (by omega);have cD:=Om M (l.getD j []) (l.getD i []) hred (hfit j (by omega)) (hfit i hm);have hsy:=J7 (i:=i) (j:=j) hred (hfit i hm) (hfit j (by omega));rw[show eA (l.getD j []) (dw M (l.getD i [])) (l.getD j []).length=vG M l j i from rfl,<- hsy]at cD;by_cases hp:PG M l i j
    ·rw[show O5 (vG M l i j)=FV (vG M l i j) true from if_pos ⟨hp.lo,hp.hi⟩]at cD;have g1:=bK (n:=n) (i:=i) 33 n hm;have g2:=bK (n:=n) (i:=j) 33 n (by omega);have g3:=cd (n:=n) n (Bv (vG M l) i j) (i:=i) hm;have g4:=aT (Bv (vG M l) i j i) (show j<n by omega);have g5:=cd (n:=n) n (upd (Bv (vG M l) i j) i j (vG M l i j)) (i:=j) (show j<n by omega);have g6:=aT (upd (Bv (vG M l) i j) i j (vG M l i j) j) hm;refine aD fun _ K=>?_;simp(disch:=omega) only[kd,jD,slI,iP];apply K
     refine bx rfl ?_;refine aF (aK ?_);refine aD fun _ K=>?_;simp only[kd];apply K
     refine aG [⟨5,_,_,_,cD⟩] [] fun _ K=>?_;simp(disch:=omega) only[kd,jD,iP,FV,aa,hlj,fR];apply K
     refine aF (aD fun _ K=>?_);simp only[kd];apply K;refine aQ rfl (aM ?_);show bo _ _ _ _;refine gP be (by kernel_rfl) fun _ K=>?_;simp(disch:=omega) only[kd,jD,aa,g1,g2,g3,g4,dK,g5,g6];apply K
     show bo _ _ _ _;refine aL fun _ K=>?_;simp(disch:=omega) only[kd,jD,aO];apply K
     refine⟨⟨j+1,by omega,fun a ha=>?_⟩,by simp only;omega,aE ⟨?_,trivial⟩ ?_⟩
     ·by_cases h:a=j
      ·subst h;exact hp
      exact hh a (by omega)
     ·show _::_=_::_;rw[ch fun a b _ _=>Hs (f:=vG M l) rfl hsy.symm a b]
     simp[wk]
    have hw:O5 (vG M l i j)=FV 0 false:=if_neg fun h=>hp ⟨hfit i hm,hfit j (by omega),h.1,h.2⟩
    rw[hw]at cD;have hr:=hno (fun h=>hp (h.2 i (by omega) j (by omega)));refine aD fun _ K=>?_;simp(disch:=omega) only[kd,jD,slI,iP];apply K
    refine bx rfl ?_;refine aF (aK ?_);refine aD fun _ K=>?_;simp only[kd];apply K
    refine aG [⟨5,_,_,_,cD⟩] [] fun _ K=>?_;simp(disch:=omega) only[kd,jD,iP,FV,aa,hlj,fR];apply K
    refine aF (aD fun _ K=>?_);simp only[kd];apply K;refine aU rfl ?_;refine aD fun _ K=>?_;simp only[kd];apply K
    rw[hr];refine aH ⟨.inr rfl,Ca rfl rfl ?_⟩;simp(disch:=omega) only[kd,jD,Tryz.results48]
   have hjc:j=i+1:=by omega
   subst hjc;refine aD fun _ K=>?_;simp(disch:=omega) only[kd,jD,slI,iP];apply K
   refine bG rfl ?_;show bo _ _ _ _;refine aL fun _ K=>?_;simp(disch:=omega) only[kd,jD,aO];apply K
   refine⟨⟨i+1,by omega,fun a ha b hb=>?_⟩,by simp only;omega,aE ⟨?_,trivial⟩ ?_⟩
   ·by_cases h:a=i
    ·subst h;exact hh b (by omega)
    exact hg a (by omega) b hb
   ·show _::_=_::_;rw[ch fun a b _ _=>Lc (vG M l) i a b]
   simp[wk]
  have hin:i=n:=by omega
  subst hin;have hr:=hyes ⟨hred,fun a ha b hb=>by
   by_cases h:b<=a
   ·exact hg a (by omega) b h
   have h1:=hg b (by omega) a (by omega);have hs:=J7 (i:=a) (j:=b) hred (hfit a (by omega)) (hfit b (by omega));exact⟨h1.y,h1.x,by rw[hs];exact h1.lo,by rw[hs];exact h1.hi⟩⟩
  refine aD fun _ K=>?_;simp(disch:=omega) only[kd,jD,slI];apply K
  refine bG rfl ?_;show bo _ _ _ _;have e:mxI 33 i i (Bv (vG M l) i 0)=mxI 33 i i (vG M l):=by
   show _::_=_::_;rw[ch fun a b ha hb=>Lb ha hb]
  rw[e];rw[hr];refine aD fun _ K=>?_;simp only[kd,aa];apply K
  refine aH ⟨.inr rfl,I2 (d:=33) rfl ?_ (by decide)⟩;simp(disch:=omega) only[kd,jD,Tryz.results48]
end Go.Proofs.YtfgeomlagfomgaaGreatDoor
