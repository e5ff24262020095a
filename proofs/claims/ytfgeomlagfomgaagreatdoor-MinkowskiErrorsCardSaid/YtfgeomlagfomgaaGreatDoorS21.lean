/-
  Part 22 of a proof (walks and plain facts).
-/
import Derived.Test.YtfgeomlagfomgaaGreatDoorS20
import Derived.ProofKit
import Derived.LaidMore
import Derived.LaidLaws
import Derived.LaidHandle
import Derived.OpenShut
set_option linter.all false
set_option maxRecDepth 100000
set_option maxHeartbeats 64000000
open Nat renaming reduceAdd → aa
open Nat renaming reduceEqDiff → ab
open List renaming replicate → ae
open Nat renaming reduceLeDiff → ah
open List renaming getElem?_map → ay
namespace Go.Proofs.YtfgeomlagfomgaaGreatDoor
open Go.RowKit
abbrev fi:List PV:=[.raw (.int .i64 1),.raw (.int .i64 3),.raw (.int .i64 9),.raw (.int .i64 27)]
theorem Hz (i code j:Nat): -1<=cnd i code j/\cnd i code j<=1:=by
 unfold cnd;split
 ·exact DC code j
 split<;>omega
theorem NH {i:Nat}:a4 (Pe (fun _=>0) i 1)=a4 (eC i):=pj fun j _=>by unfold Pe eC;rfl
theorem Ih {c c':Nat->Int} {b:Bool} (h:b=true↔ ∀j,j<4->c j=c' j):BT (a4 c) (a4 c')=some b:=by
 have e:BT (a4 c) (a4 c')=some (decide (c 0=c' 0)&&(decide (c 1=c' 1)&&(decide (c 2=c' 2)&&(decide (c 3=c' 3)&&true)))):=rfl;rw[e]
 congr 1
 apply Bool.eq_iff_iff.2;rw[h];simp only[Bool.and_eq_true,decide_eq_true_eq,and_true];constructor
 ·rintro⟨h0,h1,h2,h3⟩ j hj
  match j,hj with
  |0,_=>exact h0
  |1,_=>exact h1
  |2,_=>exact h2
  |3,_=>exact h3
 exact fun h=>⟨h 0 (by omega),h 1 (by omega),h 2 (by omega),h 3 (by omega)⟩
theorem Bx:packT Tryz.prog 3 [.raw (.int .i64 1),.raw (.int .i64 3),.raw (.int .i64 9),.raw (.int .i64 27)]=some (.raw (.int .i64 1)):=by kernel_rfl
theorem By:packT Tryz.prog 3 [.raw (.int .i64 3),.raw (.int .i64 9),.raw (.int .i64 27)]=some (.raw (.int .i64 3)):=by kernel_rfl
theorem Bz:packT Tryz.prog 3 [.raw (.int .i64 9),.raw (.int .i64 27)]=some (.raw (.int .i64 9)):=by kernel_rfl
theorem BA:packT Tryz.prog 3 [.raw (.int .i64 27)]=some (.raw (.int .i64 27)):=by kernel_rfl
theorem Fb {i:Nat} (h:i<4):packT Tryz.prog 3 ((fi.drop i).map AV.p)=some (.raw (.int .i64 ((3^i:Nat):Int))):=by
 match i,h with
 |0,_=>exact Bx
 |1,_=>exact By
 |2,_=>exact Bz
 |3,_=>exact BA
structure Qw (i:Nat) where
 k:Nat
 hk:k<=3^i
theorem Aa (n:Nat) (f:FF) (i:Nat) (hi:i<n) (hn:n<=4) (hf: ∀i j,i<n->j<n-> -1125899906842624<=f i j/\f i j<=1125899906842624):
  CallG Tryz.prog 0 138 77 [bi (bu n n f),.raw (.int .i64 (i:Int))] fi ⟨[],tC (kj n f i (3^i))⟩:=by
 have hi4:i<4:=by omega
 have h3i:3^i<=27:=Nat.le_trans (Nat.pow_le_pow_right (by omega) (show i<=3 by omega)) (by decide);have a1:=xk (fun _=>0) 1 hi4;rw[NH]at a1;refine cY Tryz.func77 rfl (by kernel_rfl) ?_;rw[Tryz.ntmps77];refine aN fun _ K=>?_;simp(disch:=omega) only[kd,bi,aa,ae];apply K
 refine aN fun _ K=>?_;simp(disch:=omega) only[kd,aa,ab];apply K
 refine dy.weak (aF (tm:=(bi (bu n n f)::rN i::jk::jk::.one (.ptr 4 0 0 0)::.one (.ptr 5 0 0 0)::j16 (j4 (jk::jk::jk::[])))) (l:=[(4,A6 fun _=>0),(5,A6 fun _=>0)]) ⟨rfl,rfl,trivial⟩ (by simp[wk])) ?_;refine aN fun _ K=>?_;simp(disch:=omega) only[kd,aa,bi,hi4,ab,dS,ah,a1];apply K
 refine bx (EU 2 i 12 (.raw (.int .i64 ((3^i:Nat):Int))) [] [] (by simp[wk]) (by decide) fun K hK=>?_);simp(disch:=omega) only[kd,hi4];apply hK;clear hK K;refine⟨⟨⟨_,_,_,rfl,rfl,rfl,rfl,by simp[AS.ev],?_⟩⟩,by simp[wk],?_⟩
 ·exact Fb hi4
 intro K hK;simp only[kd,aa];apply hK;clear hK K;refine d8 (G:=Qw i) (fun g=>⟨(bi (bu n n f)::rN i::jk::jk::.one (.ptr 4 0 0 0)::.one (.ptr 5 0 0 0)::j4 (jk::jk::.raw (.int .i64 ((3^i:Nat):Int))::rN g.k::j4 (j4 (j4 (jk::jk::jk::[]))))),Hm [(4,A6 fun _=>0),(5,A6 (kj n f i g.k))]⟩) (fun _=>fi) (fun g=>3^i-g.k) ⟨0,Nat.zero_le _⟩ ?_ rfl ?_
 ·refine aF ⟨rfl,rfl,trivial⟩ ?_;simp[wk]
 rintro⟨k,hk⟩;simp only;by_cases hm:k<3^i
 ·have hC:=xT i k hi4 (by omega);have hN1:=D3 n f (cnd i k) (by omega) hn hf (Hz i k);have hN2:=D3 n f (kj n f i k) (by omega) hn hf (yp n f i k).2.2;refine aN fun _ K=>?_;simp(disch:=omega) only[kd,bi];apply K
  refine fB rfl ?_;refine bx (bU ?_);refine aN fun _ K=>?_;simp only[kd];apply K
  refine cX [⟨2,_,_,_,hC⟩] [] fun _ K=>?_;simp(disch:=omega) only[kd,tC,aa,jj,oB,ab,dS,fw];apply K
  by_cases hlt:nrm n f (cnd i k)<nrm n f (kj n f i k)
  ·have es:kj n f i (k+1)=cnd i k:=by rw[kj,if_pos hlt]
   refine ni aZ [⟨2,_,_,_,hN1⟩,⟨5,_,_,_,hN2⟩] [] (by kernel_rfl) fun _ K=>?_;simp(disch:=omega) only[kd,bi,tC,aa,ab,dS,gM,fw,Nat.reduceBEq];apply K
   refine dJ rfl ?_;refine b9 fun _ K=>?_;simp(disch:=omega) only[kd,ab,dS,gM,fw,mt];apply K
   show dy _ _ _ _ _ _ _;refine b9 fun _ K=>?_;simp(disch:=omega) only[kd,aP];apply K
   refine⟨⟨k+1,by omega⟩,by simp only;omega,aF ⟨rfl,?_,trivial⟩ ?_,rfl⟩
   ·show _=A6 (kj n f i (k+1));rw[es];rfl
   simp[wk]
  have es:kj n f i (k+1)=kj n f i k:=by rw[kj,if_neg hlt]
  refine ni aZ [⟨2,_,_,_,hN1⟩,⟨5,_,_,_,hN2⟩] [] (by kernel_rfl) fun _ K=>?_;simp(disch:=omega) only[kd,bi,tC,aa,ab,dS,gM,fw,Nat.reduceBEq];apply K
  refine dp rfl (dC ?_);show dy _ _ _ _ _ _ _;refine b9 fun _ K=>?_;simp(disch:=omega) only[kd,aP];apply K
  refine⟨⟨k+1,by omega⟩,by simp only;omega,aF ⟨rfl,?_,trivial⟩ ?_,rfl⟩
  ·show _=A6 (kj n f i (k+1));rw[es];rfl
  simp[wk]
 have hke:k=3^i:=by omega
 subst hke;refine aN fun _ K=>?_;simp(disch:=omega) only[kd,bi];apply K
 refine iM rfl ?_;show dy _ _ _ _ _ _ _;refine aN fun _ K=>?_;simp(disch:=omega) only[kd,ab,dS,gM,fw,mt];apply K
 (refine cz ⟨.inr rfl,rfl,aH rfl ?_ rfl⟩;simp(disch:=omega) only[kd,Tryz.results77,ab,dS,gM,tC])
noncomputable def o9 (n:Nat) (f:FF):TV:=match rW n f with
 |some i=> .tup [(false,[.p (.raw (.int .i64 (i:Int)))]),(true,a4 (kj n f i (3^i))),(false,[.p (.raw (.bool true))])]
 |none=> .tup [(false,[.p (.raw (.int .i64 0))]),(true,a4 fun _=>0),(false,[.p (.raw (.bool false))])]
theorem ED {n:Nat} {f:FF} (i:Nat) (hi:i<n) (h: ∀a,a<i-> ¬VioP n f a) (hv:VioP n f i): ∀m j,j<=i->i<j+m->rj n f m j=some i
 |0,j,h1,h2=>by omega
 |m+1,j,h1,h2=>by
  rw[rj];by_cases e:j=i
  ·subst e;rw[if_pos hv]
  rw[if_neg (h j (by omega))];exact ED i hi h hv m (j+1) (by omega) (by omega)
theorem EE {n:Nat} {f:FF} (h: ∀a,a<n-> ¬VioP n f a): ∀m j,j+m<=n->rj n f m j=none
 |0,_,_=>rfl
 |m+1,j,h2=>by rw[rj,if_neg (h j (by omega))];exact EE h m (j+1) (by omega)
structure Rk (n:Nat) (f:FF) where
 i:Nat
 hi:i<=n
 ok: ∀a,a<i-> ¬VioP n f a
theorem mM (n:Nat) (f:FF) (hn1:1<=n) (hn:n<=4) (hf: ∀i j,i<n->j<n-> -1125899906842624<=f i j/\f i j<=1125899906842624):
  CallG Tryz.prog 0 138 36 [bi (bu n n f)] fi ⟨[],o9 n f⟩:=by
 have hml:=aV n n f;refine cY Tryz.func36 rfl (by kernel_rfl) ?_;rw[Tryz.ntmps36];refine aN fun _ K=>?_;simp(disch:=omega) only[kd,aa,bi,ae];apply K
 refine bx (aN fun _ K=>?_);simp only[kd,aa,hml];apply K;refine d8 (G:=Rk n f) (fun g=>⟨(bi (bu n n f)::jk::.raw (.int .i64 0)::.one (.ptr 3 0 0 0)::.raw (.bool false)::j4 (.raw (.int .i64 (n:Int))::rN g.i::j4 (j4 (j4 (jk::jk::[]))))),Hm [(3,A6 fun _=>0)]⟩) (fun _=>fi) (fun g=>n-g.i) ⟨0,by omega,fun a ha=>by omega⟩ ?_ rfl ?_
 ·refine aF ⟨rfl,trivial⟩ ?_;simp[wk]
 rintro⟨i,hi,ok⟩;simp only;by_cases hm:i<n
 ·have hi4:i<4:=by omega
  have hS:=Aa n f i hm hn hf;have a1:=xk (fun _=>0) 1 hi4;rw[NH]at a1;have h4:(∀j,j<4->kj n f i (3^i) j=eC i j)↔ ¬VioP n f i:=by
   rw[<- MG hm];refine⟨fun h j hj=>h j (by omega),fun h j hj=>?_⟩;rcases Nat.lt_trichotomy j i with h1|h1|h1
   ·exact h j (by omega)
   ·exact h j (by omega)
   rw[(yp n f i (3^i)).2.1 j h1];unfold eC;rw[if_neg (by omega)]
  refine aN fun _ K=>?_;simp(disch:=omega) only[kd,bi];apply K
  refine fB rfl ?_;refine bx (bU ?_);refine aN fun _ K=>?_;simp only[kd];apply K
  refine aN fun _ K=>?_;simp(disch:=omega) only[kd,aa,ab];apply K
  refine dy.weak (aF (tm:=(bi (bu n n f)::jk::.raw (.int .i64 0)::.one (.ptr 3 0 0 0)::.raw (.bool false)::rN i::.one (.ptr 6 0 0 0)::jk::jk::rN n::rN i::j4 (j4 (j4 (jk::jk::[]))))) (l:=[(3,A6 fun _=>0),(6,A6 fun _=>0)]) ⟨rfl,rfl,trivial⟩ (by simp[wk])) ?_;refine aN fun _ K=>?_;simp(disch:=omega) only[kd,aa,bi,hi4,ab,dS,ah,a1];apply K
  refine bN [⟨2,_,_,_,hS,rfl⟩] [] [] fun _ K=>?_;simp(disch:=omega) only[kd,bi,tC,di.a,aa,jj,oB,ab,dS,fw];apply K
  by_cases hv:VioP n f i
  ·have hE:BT (a4 (kj n f i (3^i))) (a4 (eC i))=some false:=Ih ⟨fun h=>(by cases h),fun h=>absurd (h4.1 h) (by simpa using hv)⟩;have hvi:rW n f=some i:=ED i hm ok hv n 0 (by omega) (by omega);have eT:o9 n f= .tup [(false,[.p (.raw (.int .i64 (i:Int)))]),(true,a4 (kj n f i (3^i))),(false,[.p (.raw (.bool true))])]:=by unfold o9;rw[hvi]
   rw[eT];refine aN fun _ K=>?_;simp(disch:=omega) only[kd,aa,ab,dS,gM,hE];apply K
   refine dJ rfl ?_;refine ld aZ (by kernel_rfl) fun _ K=>?_;simp(disch:=omega) only[kd,aa,ab,dS,gM,fw,mt];apply K
   (refine cz ⟨.inr rfl,rfl,aH rfl ?_ rfl⟩;simp(disch:=omega) only[kd,Tryz.results36,ab,dS,gM])
  have hE:BT (a4 (kj n f i (3^i))) (a4 (eC i))=some true:=Ih ⟨fun _=>h4.2 hv,fun _=>rfl⟩;refine aN fun _ K=>?_;simp(disch:=omega) only[kd,aa,ab,dS,gM,hE];apply K
  refine dp rfl (dC ?_);show dy _ _ _ _ _ _ _;refine b9 fun _ K=>?_;simp(disch:=omega) only[kd,aP];apply K
  refine⟨⟨i+1,by omega,fun a ha=>?_⟩,by simp only;omega,aF ⟨rfl,trivial⟩ ?_,rfl⟩
  ·by_cases e:a=i
   ·subst e;exact hv
   exact ok a (by omega)
  simp[wk]
 have hin:i=n:=by omega
 have hvi:rW n f=none:=EE (fun a ha=>ok a (by omega)) n 0 (by omega);have eT:o9 n f= .tup [(false,[.p (.raw (.int .i64 0))]),(true,a4 fun _=>0),(false,[.p (.raw (.bool false))])]:=by unfold o9;rw[hvi]
 rw[eT];subst hin;refine aN fun _ K=>?_;simp(disch:=omega) only[kd,bi];apply K
 refine iM rfl ?_;show dy _ _ _ _ _ _ _;refine aN fun _ K=>?_;simp(disch:=omega) only[kd,aa,dS,mt];apply K
 (refine cz ⟨.inr rfl,rfl,aH rfl ?_ rfl⟩;simp(disch:=omega) only[kd,Tryz.results36,aa,a4])
def pe (M:List (List Int)):Prop:=vM M/\MinkP (ent M) M.length
structure Q9 (M:List (List Int)) where
 i:Nat
 hi:i+1<=M.length
 ok: ∀a,a<i->ent M a a<=ent M (a+1) (a+1)/\0<=ent M a (a+1)
theorem pE (M:List (List Int)) (r:Bool) (hr:r=true↔pe M):
  CallG Tryz.prog 0 138 14 [bi M] fi ⟨[],.raw (.bool r)⟩:=by
 by_cases hF:vM M
 ·have hI:=ww M true (by simp[hF]);have hn1:=hF.1.1;have hn4:=hF.1.2;have eM:M=bu M.length M.length (ent M):=iZ (M:=M) (m:=M.length) fun q hq=>(hF.2.1 q hq).1
  have hV:=mM M.length (ent M) hn1 hn4 fun i j hi hj=>hF.entB hi hj
  rw[<- eM]at hV;refine cY Tryz.func14 rfl (by kernel_rfl) ?_;rw[Tryz.ntmps14];refine aN fun _ K=>?_;simp only[kd,bi,ae];apply K
  refine bx (cX [⟨1,_,_,_,hI⟩] [] fun _ K=>?_);simp only[kd,bi,aa];apply K;refine dp rfl (dC ?_);show dy _ _ _ _ _ _ _;refine bx (aN fun _ K=>?_);simp(disch:=omega) only[kd,aa,aP];apply K;have en:(M.length:Int)-1=((M.length-1:Nat):Int):=by omega
  refine d8 (G:=Q9 M) (fun g=>⟨(bi M::jk::.raw (.bool false)::j4 (j4 (jk::.raw (.int .i64 ((M.length-1:Nat):Int))::rN g.i::j16 (j16 (j4 (jk::jk::jk::[])))))),Hm []⟩) (fun _=>fi) (fun g=>M.length-g.i) ⟨0,hn1,fun a ha=>by omega⟩ ?_ rfl ?_
  ·refine aF trivial ?_;simp[wk,en]
  rintro⟨i,hi,ok⟩;simp only;by_cases hm:i+1<M.length
  ·have m1:=bD M.length (ent M) (show i<M.length by omega);have m2:=bD M.length (ent M) hm;rw[<- eM]at m1 m2;have c1:=aU (ent M i) (show i<M.length by omega);have c2:=aU (ent M (i+1)) hm;have c3:=aU (ent M i) hm;have e1:((i:Int)+1).toNat=i+1:=by omega
   by_cases hd:ent M (i+1) (i+1)<ent M i i
   ·have hr0:r=false:=by
     cases r with
     |false=>rfl
     |true=>have:=((hr.1 rfl).2.1 i hm).1;omega
    subst hr0;refine aN fun _ K=>?_;simp(disch:=omega) only[kd,bi];apply K
    refine fB rfl ?_;refine bx (bU ?_);refine aN fun _ K=>?_;simp only[kd];apply K
    refine ld aZ (by kernel_rfl) fun _ K=>?_;simp(disch:=omega) only[kd,aa,m1,fR,c1,aP,e1,m2,c2,reduceCtorEq];apply K
    refine dJ rfl ?_;refine aN fun _ K=>?_;simp only[kd];apply K
    (refine cz ⟨.inr rfl,rfl,aH rfl ?_ rfl⟩;simp(disch:=omega) only[kd,Tryz.results14])
   by_cases hs:ent M i (i+1)<0
   ·have hr0:r=false:=by
     cases r with
     |false=>rfl
     |true=>have:=((hr.1 rfl).2.1 i hm).2;omega
    subst hr0;refine aN fun _ K=>?_;simp(disch:=omega) only[kd,bi];apply K
    refine fB rfl ?_;refine bx (bU ?_);refine aN fun _ K=>?_;simp only[kd];apply K
    refine ld aZ (by kernel_rfl) fun _ K=>?_;simp(disch:=omega) only[kd,aa,m1,fR,c1,aP,e1,m2,c2,c3];apply K
    refine dJ rfl ?_;refine aN fun _ K=>?_;simp only[kd];apply K
    (refine cz ⟨.inr rfl,rfl,aH rfl ?_ rfl⟩;simp(disch:=omega) only[kd,Tryz.results14])
   refine aN fun _ K=>?_;simp(disch:=omega) only[kd,bi];apply K
   refine fB rfl ?_;refine bx (bU ?_);refine aN fun _ K=>?_;simp only[kd];apply K
   refine ld aZ (by kernel_rfl) fun _ K=>?_;simp(disch:=omega) only[kd,aa,m1,fR,c1,aP,e1,m2,c2,c3];apply K
   refine dp rfl (dC ?_);show dy _ _ _ _ _ _ _;refine b9 fun _ K=>?_;simp(disch:=omega) only[kd,aP];apply K
   refine⟨⟨i+1,by omega,fun a ha=>?_⟩,by simp only;omega,aF trivial ?_,rfl⟩
   ·by_cases e:a=i
    ·subst e;exact⟨by omega,by omega⟩
    exact ok a (by omega)
   simp[wk]
  refine aN fun _ K=>?_;simp(disch:=omega) only[kd,bi];apply K
  refine iM rfl ?_;show dy _ _ _ _ _ _ _;cases hv:rW M.length (ent M)with
  |none=>
   have hr1:r=true:=hr.2 ⟨hF,fun a ha=>ok a (by omega),fun a ha=>rk _ 0 hv a (by omega) (by omega)⟩;subst hr1;have eT:o9 M.length (ent M)= .tup [(false,[.p (.raw (.int .i64 0))]),(true,a4 fun _=>0),(false,[.p (.raw (.bool false))])]:=by unfold o9;rw[hv]
   rw[eT]at hV;refine bN [⟨1,_,_,_,hV,rfl⟩] [] [] fun _ K=>?_;simp(disch:=omega) only[kd,bi,di.a,aa,jj,oB,dS,fw];apply K
   refine aN fun _ K=>?_;simp only[kd,aa];apply K
   (refine cz ⟨.inr rfl,rfl,aH rfl ?_ rfl⟩;simp(disch:=omega) only[kd,Tryz.results14])
  |some k=>
   obtain⟨_,k1,k2,_⟩:=kR _ 0 k hv;have hr0:r=false:=by
    cases r with
    |false=>rfl
    |true=>exact absurd k2 ((hr.1 rfl).2.2 k (by omega))
   subst hr0;have eT:o9 M.length (ent M)= .tup [(false,[.p (.raw (.int .i64 (k:Int)))]),(true,a4 (kj M.length (ent M) k (3^k))),(false,[.p (.raw (.bool true))])]:=by unfold o9;rw[hv]
   rw[eT]at hV;refine bN [⟨1,_,_,_,hV,rfl⟩] [] [] fun _ K=>?_;simp(disch:=omega) only[kd,bi,di.a,aa,jj,oB,dS,fw];apply K
   refine aN fun _ K=>?_;simp only[kd,aa];apply K
   (refine cz ⟨.inr rfl,rfl,aH rfl ?_ rfl⟩;simp(disch:=omega) only[kd,Tryz.results14])
 have hr0:r=false:=by
  cases r with
  |false=>rfl
  |true=>exact absurd (hr.1 rfl).1 hF
 subst hr0;have hI:=ww M false (by simp[hF]);refine cY Tryz.func14 rfl (by kernel_rfl) ?_;rw[Tryz.ntmps14];refine aN fun _ K=>?_;simp only[kd,bi,ae];apply K
 refine bx (cX [⟨1,_,_,_,hI⟩] [] fun _ K=>?_);simp only[kd,bi,aa];apply K;refine dJ rfl ?_;refine aN fun _ K=>?_;simp only[kd];apply K
 (refine cz ⟨.inr rfl,rfl,aH rfl ?_ rfl⟩;simp(disch:=omega) only[kd,Tryz.results14])
section
open Go.ChangeShapes Go.WideShapes Go.ChangeAt Go.WideMaps Go.WideElems Go.RowKit
theorem PP : Tryz.prog.globalNamed "quadform/minkowski.conditions" = some 0 := by kernel_rfl
theorem P7:(Tryz.prog.globals[0]?).map (·.type)=some 138:=by kernel_rfl
abbrev rF : List (String × DataW Unit) := [("quadform/minkowski.conditions", Rows.laid_quadform_minkowski_conditions)]
theorem rz {W:World} (h:laidMetH Tryz.prog rF W):xc 0 138 fi W:=by
 rw[MakeChecks.laidMetH_plain _ _ _ (by kernel_rfl)]at h;obtain⟨ps,⟨g0,t0,cs0,f0,p0,q0,hg0,ht0,hv0,hd0,_,_⟩,_,_⟩:=h;obtain rfl:=Option.some.inj (PP.symm.trans hg0);obtain rfl:=Option.some.inj (P7.symm.trans ht0);obtain⟨xs,m1,rfl,hx1,hlen,hn3,hel⟩:=DataW.trod_array Tryz.underlying138 hd0;have c3:Tryz.prog.cellsOf 3=1:=by kernel_rfl
 have c4:Tryz.prog.cellsOf 138=4:=by kernel_rfl
 rw[c4]at hlen;have hcell: ∀i,i<4-> ∃k:Int,cs0[i]?=some (.int .i64 k)/\(xs[i]?).map (·.1)=some (.lit (.int .i64 k)):=fun i hi=>by
  have h1:=hel i hi;rw[c3,Nat.mul_one]at h1;obtain⟨y,hy⟩: ∃y,xs[i]?=some y:=⟨xs[i]'(by omega),List.getElem?_eq_getElem (by omega)⟩;rw[hy]at h1;obtain⟨k,e1,e2,_⟩:=DataW.trod_int Tryz.underlying3 h1;refine⟨k,?_,by rw[hy,e2];rfl⟩;have h2:=congrArg (fun l=>l[0]?) e1;simp only[List.getElem?_take,List.getElem?_drop,Nat.add_zero]at h2;simpa using h2
 have hx:xs.map (·.1)=[.lit (.int .i64 1),.lit (.int .i64 3),.lit (.int .i64 9),.lit (.int .i64 27)]:=by
  simp only[Prod.mk.injEq,Rows.laid_quadform_minkowski_conditions,DataW.agg.injEq]at hx1;exact hx1.1.symm
 have hat: ∀(i:Nat) (k:Int),i<4->(xs.map (·.1))[i]?=some (.lit (.int .i64 k))->W.cell? ⟨0,i,none⟩=some (.int .i64 k):=fun i k hi hk=>by
  obtain⟨k',h1,h2⟩:=hcell i hi;rw[ay,h2]at hk;have:k'=k:=by simpa using hk
  subst this;rw[World.var?_cell hg0 hv0 i,h1]
 rw[hx]at hat;have a0:=hat 0 1 (by omega) rfl;have a1:=hat 1 3 (by omega) rfl;have a2:=hat 2 9 (by omega) rfl;have a3:=hat 3 27 (by omega) rfl;refine⟨jL a0,fun j x hx=>?_⟩
 match j,hx with
 |0,hx=>simp at hx;exact⟨_,hx.symm,a0,rfl⟩
 |1,hx=>simp at hx;exact⟨_,hx.symm,a1,rfl⟩
 |2,hx=>simp at hx;exact⟨_,hx.symm,a2,rfl⟩
 |3,hx=>simp at hx;exact⟨_,hx.symm,a3,rfl⟩
 |j+4,hx=>simp at hx
theorem zy (os:Os) (args:Array Value):laidMetH Tryz.prog rF ((World.doorLaid Tryz.prog 400 os).forCall (fun _ _=>0) ⟨#[],args,[]⟩).memory:=
 laidMetH_of_parts3 (fuel:=8) (laidMet_of_run' 8 (by kernel_rfl) (by kernel_rfl)) (by kernel_rfl) (by kernel_rfl)
theorem CallG.law {P:Program} {b:Nat} {ty:TypeId} {f:FuncId} {args:List TV} {cs:List PV} {r:Bool} (h:CallG P b ty f args cs ⟨[],.raw (.bool r)⟩) {w:World} (hb:xc b ty cs w) {vs:Array Value} (hvs:vs.size=args.length)
  (ha: ∀(j:Nat) t,args[j]?=some t-> ∃v:Value,vs[j]?=some v/\t.rel (fun _ _=>none) (fun _=>[]) (fun _=>False) w v):Calls P f vs w fun e w'=>e= .returned (.bool r)/\Ext w w':=
 ((h.2 w hb).2 (fun _=>False) vs (fun b h=>h.elim) hvs ha).mono fun e w' ⟨v,h1,ρ,h2,h3⟩=>⟨by rw[h1,lT h3],zM h2.keep⟩
end
section
variable {n:Nat}
theorem J5 {x:Int} {A:Nat} (h:x*x<=(A:Int)*(A:Int)): -(A:Int)<=x/\x<=(A:Int):=by
 have h1:x.natAbs*x.natAbs<=A*A:=by
  have e:((x.natAbs*x.natAbs:Nat):Int)=x*x:=Int.natAbs_mul_self;have:((x.natAbs*x.natAbs:Nat):Int)<=((A*A:Nat):Int):=by rw[e,Int.natCast_mul];exact h
  exact Int.ofNat_le.1 this
 have h2:x.natAbs<=A:=by
  rcases Nat.lt_or_ge A x.natAbs with hl|hl
  ·have:=Nat.mul_lt_mul'' hl hl;omega
  exact hl
 omega
theorem CC {h:FF} (hn1:1<=n) (hn:n<=4) (hr:RedR h n) {x:Nat->Int} (hx:nrm n h x<=262144): ∀j,j<n-> -549755813888<=x j/\x j<=549755813888:=fun j hj=>by
 have h1:=HW (B:=262144) hr.pd hj (fun a b ha hb=>by have:=kx hn1 (by omega) hr a ha b hb;omega) x hx;have h2:(n*262144)^(n-1)<=1048576^3:=by
  have:n*262144<=1048576:=by omega
  exact Nat.le_trans (Nat.pow_le_pow_left this _) (Nat.pow_le_pow_right (by omega) (by omega))
 have h3:(((n*262144)^(n-1):Nat):Int)<=1152921504606846976:=by
  have e:1048576^3=1152921504606846976:=by decide
  rw[e]at h2;omega
 refine J5 (A:=549755813888) ?_;generalize(((n*262144)^(n-1):Nat):Int)=q at*
 omega
theorem mF {h B:FF} {W:Int} (hp:PD h n) (hB:InB2 n h W B) {a b:Nat} (ha:a<n) (hb:b<n) (A:Nat) (hW:W<=(A:Int)): -(A:Int)<=gmB n h B a b/\gmB n h B a b<=(A:Int):=by
 refine J5 ?_;have h1:=hp.schwarz (B a) (B b);have h2:=hB.nr a ha;have h3:=hB.nr b hb;have h4:=(hp.pos (B a)).1;have h5:=(hp.pos (B b)).1;unfold nrm at h2 h3;unfold gmB;have h6:BF n h (B a) (B a)*BF n h (B b) (B b)<=(A:Int)*(A:Int):=Int.mul_le_mul (by omega) (by omega) h5 (by omega);omega
theorem InB2.one {h:FF} (hn1:1<=n) (hn:n<=8) (hr:RedR h n):InB2 n h 262144 (fun a b=>if a=b then 1 else 0):=by
 refine⟨fun a ha=>?_,?_⟩
 ·have e:(fun b=>if a=b then(1:Int)else 0)=eC a:=by funext b;unfold eC;by_cases h:a=b<;>simp[h,eq_comm]<;>omega
  show nrm n h (fun b=>if a=b then 1 else 0)<=_;rw[e,un ha];have:=kx hn1 hn hr a ha a ha;omega
 have e:trF (fun a b=>if a=b then(1:Int)else 0)=fun i j=>if i=j then 1 else 0:=by
  funext i j;unfold trF;by_cases h:i=j<;>simp[h,eq_comm]<;>omega
 rw[e,Ok];rfl
theorem InB2.sg {h B:FF} {W:Int} (g:FF) (hB:InB2 n h W B):InB2 n h W (uX g B):=by
 refine⟨fun a ha=>?_,?_⟩
 ·have:=hB.nr a ha;have e:nrm n h (uX g B a)=nrm n h (B a):=by
   have h1:gmB n h (uX g B) a a=gmB n h B a a:=by
    rw[Is];unfold KT;rcases n6 g a with e|e<;>rw[e]<;>omega
   exact h1
  rw[e];exact this
 have h1:=JY (g:=g) (B:=B) n (Nat.le_refl n);rw[<- hB.dt,<- h1]
 congr 1
 exact gN fun i j _ hj=>by show md g j*B j i=if j<n then _ else _;rw[if_pos hj]
theorem Ab {h:FF} (hn1:1<=n) (hn:n<=4) (hr:RedR h n): ∃R,RchB n h (fun a b=>if a=b then 1 else 0) R/\InB2 n h 262144 R/\InB2 n h 262144 (uX (gmB n h R) R)/\MinkP (gmB n h (uX (gmB n h R) R)) n:=by
 have h1:=InB2.one hn1 (by omega) hr;obtain⟨R,hR⟩:=At hr.pd _ _ rfl h1;obtain⟨e1,e2,e3⟩:=As hR h1;exact⟨R,hR,e1,e1.sg _,IP e2 e3⟩
theorem InB2.pd {h B:FF} {W:Int} (hp:PD h n) (hB:InB2 n h W B):PD (gmB n h B) n:=by
 rw[DP];exact hp.cng (by have:=hB.dt;omega)
end
/-! Inner products of rows. -/
theorem pT {n:Nat} {h:FF} (hn1:1<=n) (hn:n<=8) (hr:RedR h n):bA (bu n n h)=true:=
 (dw _).2 ((sO hn1).2 ⟨rfl,hn,hr⟩)
theorem js {n:Nat} {X:Nat->Int} (hx: ∀j,j<n-> -1099511627776<=X j/\X j<=1099511627776):FitB n (bG n X)=true:=by
 refine iy.2 ⟨bz n X,?_⟩;unfold GH;rw[List.all_eq_true];intro c hc;obtain⟨j,hj⟩:=List.mem_iff_getElem?.1 hc;have hjn:j<n:=by
  have:=(List.getElem?_eq_some_iff.1 hj).1;rwa[bz]at this
 rw[aU _ hjn]at hj;injection hj with hj
 have:=hx j hjn;rw[hj]at this;simp[this]
theorem io (n:Nat) (X:Nat->Int):(bG n X).take n=bG n X:=List.take_of_length_le (by rw[bz];omega)
theorem DS {n:Nat} {h:FF} {X Y:Nat->Int} (hn1:1<=n) (hn:n<=8) (hr:RedR h n) (hx: ∀j,j<n-> -1099511627776<=X j/\X j<=1099511627776) (hy: ∀j,j<n-> -1099511627776<=Y j/\Y j<=1099511627776):
  eW (bG n X) (dK (bu n n h) (bG n Y)) (bG n X).length=BF n h X Y:=by
 have e:=xJ (x:=bG n X) (y:=bG n Y) (pT hn1 hn hr) (by rw[aV];exact js hx) (by rw[aV];exact js hy);rw[e,aV];exact eG (fun i j hi hj=>lD h hi hj) (fun i hi=>nY X hi) (fun i hi=>nY Y hi)
theorem tT {n:Nat} {h:FF} {X Y:Nat->Int} (hn1:1<=n) (hn:n<=8) (hr:RedR h n) (hx: ∀j,j<n-> -1099511627776<=X j/\X j<=1099511627776) (hy: ∀j,j<n-> -1099511627776<=Y j/\Y j<=1099511627776)
  (hb: -4611686018427387904<=BF n h X Y/\BF n h X Y<=4611686018427387904):Fu (bu n n h) (bG n X) (bG n Y)=Gs (BF n h X Y) true:=by
 unfold Fu;rw[if_pos ⟨by unfold kn;rw[pT hn1 hn hr,aV,js hx];rfl,by rw[aV];exact js hy⟩,DS hn1 hn hr hx hy];exact if_pos hb
def GdR (n:Nat) (h:FF) (x:Nat->Int):Prop:=nrm n h x<=262144
theorem GdR.co {n:Nat} {h:FF} {x:Nat->Int} (hn1:1<=n) (hn:n<=4) (hr:RedR h n) (hg:GdR n h x): ∀j,j<n-> -1099511627776<=x j/\x j<=1099511627776:=fun j hj=>by
 have:=CC hn1 hn hr hg j hj;omega
theorem GdR.nn {n:Nat} {h:FF} {x:Nat->Int} (hr:RedR h n):0<=nrm n h x:=(hr.pd.pos x).1
abbrev fA (M:List (List Int)):List PV:=[.sl (ls (fR fI) M)]
abbrev Od (n:Nat) (h:FF):TV:= .fn 92 [.p (.ptr (fA (bu n n h)))]
theorem Hv {n:Nat} {h:FF} {X Y:Nat->Int} (hn1:1<=n) (hn:n<=4) (hr:RedR h n) (hx:GdR n h X) (hy:GdR n h Y):
  CallC Tryz.prog 92 [iU (bG n X),iU (bG n Y),.one (.p (.ptr (fA (bu n n h))))] ⟨[],.raw (.int .i64 (nrm n h X-nrm n h Y))⟩:=by
 have a0:0<=nrm n h X:=GdR.nn hr;have b0:0<=nrm n h Y:=GdR.nn hr;have a1:nrm n h X<=262144:=hx;have b1:nrm n h Y<=262144:=hy;have c1:=Eg (bu n n h) (bG n X);have c2:=Eg (bu n n h) (bG n Y);rw[tT hn1 (by omega) hr (hx.co hn1 hn hr) (hx.co hn1 hn hr) (by show _<=nrm n h X/\nrm n h X<=_;omega),show BF n h X X=nrm n h X from rfl]at c1;rw[tT hn1 (by omega) hr (hy.co hn1 hn hr) (hy.co hn1 hn hr) (by show _<=nrm n h Y/\nrm n h Y<=_;omega),show BF n h Y Y=nrm n h Y from rfl]at c2;refine aJ Tryz.func92 rfl (by kernel_rfl) ?_;rw[Tryz.ntmps92];refine aD fun _ K=>?_;simp only[kd,iU,aa,ae];apply K
 refine aG [⟨2,_,_,_,c1⟩] [] fun _ K=>?_;simp only[kd,bi,iU,Gs,aa];apply K
 refine aG [⟨2,_,_,_,c2⟩] [] fun _ K=>?_;simp only[kd,bi,iU,Gs,aa];apply K
 refine aD fun _ K=>?_;simp(disch:=omega) only[kd,aa,aP];apply K
 (refine aI ⟨.inr rfl,aH rfl ?_ rfl⟩;simp(disch:=omega) only[kd,Tryz.results92])
/-! Rows that change their places. -/
theorem IT {d n p k:Nat} (g:FF) (hp:p<n) (hk:k<n) (hne:k≠p) (r:Nat):(de d n n (swp p k g))[r]?=
  (((⟨27,1,((gm d (ae n n)).set p [.sl d (k+1) 0 n]).set k [.sl d (p+1) 0 n]⟩::(bu n n g).map jf:List OObj))[sw (p+1) (k+1) r]?).map (vp d (p+1) (k+1)):=by
 cases r with
 |zero=>
  rw[show sw (p+1) (k+1) 0=0 by simp[sw]];simp only[List.getElem?_cons_zero,Option.map_some,vp]
  congr 2
  apply List.ext_getElem?;intro i;rw[ay,List.getElem?_set,List.getElem?_set,List.length_set,ch,List.length_replicate];by_cases hi:i<n
  ·rw[bO d n hi];by_cases h1:k=i
   ·subst h1;simp[hi,jA,oq,sw]
   by_cases h2:p=i
   ·subst h2;simp[h1,hi,jA,oq,sw]
   have h1': ¬i=k:=fun e=>h1 e.symm
   have h2': ¬i=p:=fun e=>h2 e.symm
   simp[h1,h2,h1',h2',jA,oq,sw]
  have h1: ¬k=i:=by omega
  have h2: ¬p=i:=by omega
  rw[if_neg h1,if_neg h2,List.getElem?_eq_none (by rw[ch,List.length_replicate];omega)];rfl
 |succ r=>
  have hsw:sw (p+1) (k+1) (r+1)=sw p k r+1:=by
   unfold sw;by_cases h1:r=p
   ·simp[h1]
   by_cases h2:r=k
   ·simp[h1,h2,hne]
   simp[h1,h2]
  have hO: ∀l:List Int,vp d (p+1) (k+1) (jf l)=jf l:=fun l=>by
   simp only[vp,jf,lc,List.map_map]
   congr 1
  rw[hsw,List.getElem?_cons_succ,List.getElem?_cons_succ,ay,ay];by_cases hr:r<n
  ·have hs:sw p k r<n:=by unfold sw;split<;>(try split)<;>omega
   rw[bD _ _ hr,bD _ _ hs];simp only[Option.map_some,hO]
   congr 3
   unfold swp sw;by_cases h1:r=p
   ·simp[h1]
   by_cases h2:r=k
   ·simp[h1,h2,hne]
   simp[h1,h2]
  have hs: ¬sw p k r<n:=by unfold sw;rw[if_neg (by omega),if_neg (by omega)];exact hr
  rw[List.getElem?_eq_none (by rw[aV];omega),List.getElem?_eq_none (by rw[aV];omega)];rfl
theorem kE (n c:Nat) (f:FF): ∀o∈de 0 n c f,selfO 0 o:=fun o ho e he x hx=>by
 simp only[List.mem_cons,List.mem_map]at ho;rcases ho with rfl|⟨r,_,rfl⟩
 ·obtain⟨k,hk⟩:=List.mem_iff_getElem?.1 he;have hkn:k<n:=by
   have:=(List.getElem?_eq_some_iff.1 hk).1;simpa[ch] using this
  simp only at hk;rw[bO 0 c hkn]at hk;injection hk with hk
  subst hk;simp at hx;subst hx;rfl
 exact dx (eA _ _ _) e he x hx
theorem ud (n c:Nat) (f g:FF): ∃o o',(de 0 n c f)[0]?=some o/\(de 0 n c g)[0]?=some o'/\o.elems.length=n/\o'.elems.length=n/\o'.es=o.es:=
 ⟨_,_,rfl,rfl,by simp[ch],by simp[ch],rfl⟩
structure Qp (n:Nat) (h:FF) (i:Nat) (T:FF) where
 j:Nat
 C:Nat->Nat->Int
 hj:j<=i
 he:insB (nrm n h) C j=T
 ok: ∀a,a<n->GdR n h (C a)
structure PF (n:Nat) where
 i:Nat
 h1:1<=i
 hi:i<=n
theorem Fw (n:Nat) (h B:FF) (hn1:1<=n) (hn:n<=4) (hr:RedR h n) (hB: ∀a,a<n->GdR n h (B a)):
  rp Tryz.prog 151 [jk,.raw (.int .i64 0),.raw (.int .i64 (n:Int)),.fn 92 [.p (.ptr (fA (bu n n h)))]] 0 n (de 0 n n B) (de 0 n n (lY (nrm n h) B n)) .undef:=by
 have hall:=fun i hi=>qc (n:=n) (nrm n h) (Q:=GdR n h) (B:=B) hB i hi
 refine tc Tryz.func151 rfl (by kernel_rfl) (by simp) hn1 (ud _ _ _ _) rfl ?_;rw[Tryz.ntmps151];refine fc.weak (aF (tm:=(.one (.sl 0 0 0 n)::.raw (.int .i64 0)::rN n::.fn 92 [.p (.ptr (fA (bu n n h)))]::j16 (j16 (j16 (jk::[]))))) (l:=[(0,de 0 n n B)]) ⟨rfl,trivial⟩ (by simp[wk,ae])) ?_;refine aX (by kernel_rfl) fun _ K=>?_;simp(disch:=omega) only[kd,aa,aP];apply K
 refine f9 (G:=PF n) (fun g=>⟨(.one (.sl 0 0 0 n)::.raw (.int .i64 0)::rN n::.fn 92 [.p (.ptr (fA (bu n n h)))]::j4 (.raw (.int .i64 (g.i:Int))::j16 (j16 (j4 (j4 (j4 ([]))))))),Hm [(0,de 0 n n (lY (nrm n h) B g.i))]⟩) (fun g=>n-g.i) ⟨1,by omega,hn1⟩ ?_ ?_
 ·refine aF ⟨rfl,trivial⟩ ?_;simp[wk]
 rintro⟨i,hi1,hi⟩;simp only;by_cases hm:i<n
 ·refine bY (aX (by kernel_rfl) fun _ K=>?_);simp(disch:=omega) only[kd,aa];apply K;refine ji rfl (fC ?_);refine bY (eh ?_);refine aX (by kernel_rfl) fun _ K=>?_;simp only[kd];apply K
  refine f9 (G:=Qp n h i (lY (nrm n h) B (i+1))) (fun g=>⟨(.one (.sl 0 0 0 n)::.raw (.int .i64 0)::rN n::.fn 92 [.p (.ptr (fA (bu n n h)))]::j4 (.raw (.int .i64 (i:Int))::rN g.j::j16 (j16 (j4 (j4 (jk::jk::jk::[])))))),Hm [(0,de 0 n n g.C)]⟩) (fun g=>g.j) ⟨i,lY (nrm n h) B i,Nat.le_refl _,rfl,hall i (by omega)⟩ ?_ ?_
  ·refine aF ⟨rfl,trivial⟩ ?_;simp[wk]
  rintro⟨j,C,hj,he,ok⟩;simp only;cases j with
  |zero=>
   have he:C=lY (nrm n h) B (i+1):=he;refine bY (gA aZ (by kernel_rfl) (by kernel_rfl) fun _ K=>?_);simp(disch:=omega) only[kd,aa];apply K;refine ia rfl (f7 ?_);show fc _ _ _ _ _;refine dz (by kernel_rfl) fun _ K=>?_;simp(disch:=omega) only[kd,aa,aP];apply K
   refine⟨⟨i+1,by omega,by omega⟩,by simp only;omega,aF ⟨?_,trivial⟩ ?_⟩
   ·rw[<- he];rfl
   simp[wk]
  |succ j=>
   have hC:=Hv hn1 hn hr (ok (j+1) (by omega)) (ok j (by omega));have e0:IntKind.i64.wrap (((j+1:Nat):Int)-1)=(j:Int):=by rw[show((j+1:Nat):Int)-1=(j:Int) by omega];exact aP (by omega) (by omega)
   have g1:=bO (n:=n) (i:=j+1) 0 n (by omega);have g2:=bO (n:=n) (i:=j) 0 n (by omega);have r1:=cL n C (i:=j+1) (show j+1<n by omega);have r2:=cL n C (i:=j) (show j<n by omega);have gt:(0:Int)<((j+1:Nat):Int):=by omega
   by_cases hlt:nrm n h (C (j+1))<nrm n h (C j)
   ·rw[insB,if_pos hlt]at he;have hneg:nrm n h (C (j+1))-nrm n h (C j)<0:=by omega
    refine bY (nk aZ [⟨14,_,_,_,hC⟩] [] (by kernel_rfl) (by kernel_rfl) fun _ K=>?_);simp(disch:=omega) only[kd,iU,aa,gt,g1,e0,g2,r1,io,r2,hneg];apply K;refine ji rfl (fC ?_);refine bY (eh ?_);have hsw:=IT (d:=0) C (show j+1<n by omega) (show j<n by omega) (by omega);have g4:((gm 0 (ae n n)).set (j+1) [.sl 0 (j+1) 0 n])[j]?=some [.sl 0 (j+1) 0 n]:=by
     rw[List.getElem?_set_ne (by omega),g2]
    refine Bk aZ (by kernel_rfl) (by kernel_rfl) fun _ K=>?_;simp(disch:=omega) only[kd,aa,e0,g2,g1,g4,ah,reduceCtorEq];apply K
    show fc _ _ _ _ _;refine fc.weak ((pi 0 (j+1+1) (j+1) (de 0 n n (swp (j+1) j C)) hsw).trans (aF (tm:=(.one (.sl 0 0 0 n)::.raw (.int .i64 0)::rN n::.fn 92 [.p (.ptr (fA (bu n n h)))]::j4 (.raw (.int .i64 (i:Int))::.raw (.int .i64 ((j+1:Nat):Int))::j16 (j16 (j4 (j4 (jk::jk::jk::[]))))))) (l:=[(0,de 0 n n (swp (j+1) j C))]) ⟨rfl,trivial⟩ (by simp[wk,CR,jA,oq,sw]))) ?_;refine dz (by kernel_rfl) fun _ K=>?_;simp only[kd,aa,e0];apply K
    refine⟨⟨j,swp (j+1) j C,by omega,he,fun a ha=>?_⟩,by simp only;omega,aF ⟨rfl,trivial⟩ ?_⟩
    ·unfold swp;split
     ·exact ok j (by omega)
     split
     ·exact ok (j+1) (by omega)
     exact ok a ha
    simp[wk]
   rw[insB,if_neg hlt]at he;have hneg: ¬nrm n h (C (j+1))-nrm n h (C j)<0:=by omega
   refine bY (nk aZ [⟨14,_,_,_,hC⟩] [] (by kernel_rfl) (by kernel_rfl) fun _ K=>?_);simp(disch:=omega) only[kd,iU,aa,gt,g1,e0,g2,r1,io,r2,hneg];apply K;refine ia rfl (f7 ?_);show fc _ _ _ _ _;refine dz (by kernel_rfl) fun _ K=>?_;simp(disch:=omega) only[kd,aa,aP];apply K
   refine⟨⟨i+1,by omega,by omega⟩,by simp only;omega,aF ⟨?_,trivial⟩ ?_⟩
   ·rw[<- he];rfl
   simp[wk]
 have hin:i=n:=by omega
 subst hin;refine bY (aX (by kernel_rfl) fun _ K=>?_);simp(disch:=omega) only[kd,aa];apply K;refine ia rfl (f7 ?_);refine⟨.inl rfl,_,ca.refl _,rfl,lG _,rfl⟩
theorem J9 (n:Nat) (h B:FF) (hn1:1<=n) (hn:n<=4) (hr:RedR h n) (hB: ∀a,a<n->GdR n h (B a)):
  rp Tryz.prog 123 [jk,.raw (.int .i64 (n:Int)),.fn 92 [.p (.ptr (fA (bu n n h)))]] 0 n (de 0 n n B) (de 0 n n (lY (nrm n h) B n)) .undef:=by
 have hI:=Fw n h B hn1 hn hr hB;refine tc Tryz.func123 rfl (by kernel_rfl) (by simp) hn1 (ud _ _ _ _) rfl ?_;rw[Tryz.ntmps123];refine fc.weak (aF (tm:=(.one (.sl 0 0 0 n)::rN n::.fn 92 [.p (.ptr (fA (bu n n h)))]::j16 (j16 (j16 (j4 (j4 (j4 ([])))))))) (l:=[(0,de 0 n n B)]) ⟨rfl,trivial⟩ (by simp[wk,ae])) ?_;refine aX (by kernel_rfl) fun _ K=>?_;simp only[kd];apply K
 refine aX (by kernel_rfl) fun _ K=>?_;simp only[kd,aa];apply K
 refine bY (f9 (G:=Unit) (fun _=>⟨(.one (.sl 0 0 0 n)::rN n::.fn 92 [.p (.ptr (fA (bu n n h)))]::jk::jk::jk::.raw (.int .i64 20)::.raw (.int .i64 0)::.raw (.int .i64 20)::j16 (j16 (j16 (j4 (jk::jk::[]))))),Hm [(0,de 0 n n B)]⟩) (fun _=>0) () ?_ ?_)
 ·refine aF ⟨rfl,trivial⟩ ?_;simp[wk]
 intro _;refine bY (aX (by kernel_rfl) fun _ K=>?_);simp(disch:=omega) only[kd,aa];apply K;refine ia rfl (f7 ?_);show fc _ _ _ _ _;refine Bl 4 hI 0 [] [] (by kernel_rfl) (by simp[wk]) hn1 rfl (kE _ _ _) (kE _ _ _) (by decide) (by simp[wk]) (by decide) fun K hK=>?_
 simp only[kd,aa];apply hK;clear hK K;refine⟨⟨rfl,(cx 0 0 _ _ _).symm⟩,by simp,?_⟩;intro K hK;simp only[kd,aa,Oc,cwD,kM];apply hK;clear hK K;refine f9 (G:=Unit) (fun _=>⟨(.one (.sl 0 0 0 n)::rN n::.fn 92 [.p (.ptr (fA (bu n n h)))]::jk::jk::jk::.raw (.int .i64 20)::j16 (j16 (j16 (j4 (j4 ([])))))),Hm [(0,de 0 n n (lY (nrm n h) B n))]⟩) (fun _=>0) () ?_ ?_
 ·refine aF ⟨cx 0 0 n n _,trivial⟩ ?_;simp[wk]
 intro _;refine bY (aX (by kernel_rfl) fun _ K=>?_);simp(disch:=omega) only[kd,aa];apply K;refine ia rfl (f7 ?_);refine⟨.inl rfl,_,ca.refl _,rfl,lG _,rfl⟩
theorem yw (n:Nat) (h B:FF) (hn1:1<=n) (hn:n<=4) (hr:RedR h n) (hB: ∀a,a<n->GdR n h (B a)):
  rp Tryz.prog 91 [jk,.fn 92 [.p (.ptr (fA (bu n n h)))]] 0 n (de 0 n n B) (de 0 n n (lY (nrm n h) B n)) .undef:=by
 have hI:=J9 n h B hn1 hn hr hB;refine tc Tryz.func91 rfl (by kernel_rfl) (by simp) hn1 (ud _ _ _ _) rfl ?_;rw[Tryz.ntmps91];refine fc.weak (aF (tm:=(.one (.sl 0 0 0 n)::.fn 92 [.p (.ptr (fA (bu n n h)))]::j4 (jk::jk::jk::[]))) (l:=[(0,de 0 n n B)]) ⟨rfl,trivial⟩ (by simp[wk,ae])) ?_;refine sY 4 hI 0 [] [] (by kernel_rfl) (by simp[wk]) hn1 rfl (kE _ _ _) (kE _ _ _) (by decide) (by simp[wk]) (by decide) fun K hK=>?_
 simp only[kd,aa];apply hK;clear hK K;refine⟨⟨rfl,(cx 0 0 _ _ _).symm⟩,by simp,?_⟩;intro K hK;simp only[kd,aa,Oc,cwD,kM];apply hK;clear hK K;refine⟨.inl rfl,_,aF (tm:=(.one (.sl 0 0 0 n)::j4 (j4 ([])))) (l:=[(0,de 0 n n (lY (nrm n h) B n))]) ⟨cx 0 0 n n _,trivial⟩ (by simp[wk]),rfl,lG _,rfl⟩
open Classical in
noncomputable def tM (M l:List (List Int)):CallRes:=if Pj M l then⟨de 0 l.length l.length (vG M l),lE l.length true⟩else⟨de 0 0 0 (vG M l),lE 0 false⟩
theorem tN {M l:List (List Int)} (h: ¬Pj M l):tM M l=⟨de 0 0 0 (vG M l),lE 0 false⟩:=if_neg h
theorem nA {M l:List (List Int)} (h:Pj M l):tM M l=⟨de 0 l.length l.length (vG M l),lE l.length true⟩:=if_pos h
theorem uK {fn:Func} {c:Nat} {F:FF} {b:Bool} {s:AS} (hd:s.H 500=[]) (hk:s.tmps[4]?=some (.raw (.slice none 0 0)))
  (hres:rU Tryz.prog ⟨s.tmps.set 4 (.one (.sl 500 0 0 0)),bj s.H 500 [⟨27,1,[]⟩]⟩ fn.results.toList=some (.tup [(false,[.sl 500 0 0 0]),(false,[.p (.raw (.bool b))])])):
  ∃s',ca s s'/\ol Tryz.prog fn ⟨de 0 0 c F,lE 0 b⟩ s':=
 ⟨_,fg (k:=4) (d:=500) 27 1 (by omega) hd hk,_,500,hres,uU (by simp[iR,dX]) (by decide),by simp only[bI];rfl,rfl⟩
theorem Ef (M l:List (List Int)) (hl:l.length<=16):CallC Tryz.prog 48 [bi M,bi l] (tM M l):=by
 have hno:=tN (M:=M) (l:=l);have hyes:=nA (M:=M) (l:=l);generalize tM M l=r at*
 have cR:=gR M;cases hred:bA M with
 |false=>
  rw[hred]at cR;rw[hno (fun h=>by rw[h.1]at hred;cases hred)];refine aJ Tryz.func48 rfl (by kernel_rfl) ?_;rw[Tryz.ntmps48];refine aD fun _ K=>?_;simp only[kd,bi,aa,ae];apply K
  refine aE (aG [⟨1,_,_,_,cR⟩] [] fun _ K=>?_);simp only[kd,bi,aa];apply K;refine aS rfl ?_;refine aD fun _ K=>?_;simp only[kd];apply K
  refine aI ⟨.inr rfl,uK rfl rfl ?_⟩;simp(disch:=omega) only[kd,Tryz.results48]
 |true=>
  rw[hred]at cR;obtain⟨n,hn⟩: ∃n,n=l.length:=⟨_,rfl⟩;rw[<- hn]at hyes hl;have hln:=hn.symm;refine aJ Tryz.func48 rfl (by kernel_rfl) ?_;rw[Tryz.ntmps48];refine aD fun _ K=>?_;simp only[kd,bi,aa,ae];apply K
  refine aE (aG [⟨1,_,_,_,cR⟩] [] fun _ K=>?_);simp only[kd,bi,aa];apply K;refine aO rfl (aL ?_);show bs _ _ _ _;refine aE (aD fun _ K=>?_);simp only[kd,aa,hln];apply K;refine aT (G:=Qo n (fun a=>FitB M.length (l.getD a [])=true)) (fun g=>⟨(bi M::bi l::j16 (jk::bi l::rN n::rN g.i::j16 (j16 (j16 (j16 (jk::jk::jk::[])))))),Hm []⟩) (fun g=>n-g.i) ⟨0,by omega,fun a h=>by omega⟩ ?_ ?_
  ·refine aF trivial ?_;simp[wk]
  rintro⟨i,hi,hg⟩;simp only;by_cases hm:i<n
  ·have hli:=xG (l:=l) (i:=i) (by omega);have cF:=L7 M.length (l.getD i []);cases hf:FitB M.length (l.getD i [])with
   |true=>
    rw[hf]at cF;have hg': ∀a,a<i+1->FitB M.length (l.getD a [])=true:=fun a ha=>by
     by_cases h:a=i
     ·subst h;exact hf
     exact hg a (by omega)
    generalize l.getD i []=xi at*
    refine aD fun _ K=>?_;simp(disch:=omega) only[kd,bi];apply K
    refine bC rfl ?_;refine aE (aK ?_);refine aD fun _ K=>?_;simp(disch:=omega) only[kd,aa,hli,fR];apply K
    refine aG [⟨3,_,_,_,cF⟩] [] fun _ K=>?_;simp only[kd,iU,aa];apply K
    refine aO rfl (aL ?_);show bs _ _ _ _;refine aM fun _ K=>?_;simp(disch:=omega) only[kd,aP];apply K
    refine⟨⟨i+1,by omega,hg'⟩,by simp only;omega,aF trivial ?_⟩;simp[wk]
   |false=>
    rw[hf]at cF;have hr:=hno (fun h=>by rw[(h.2 i (by omega) i (by omega)).x]at hf;cases hf);generalize l.getD i []=xi at*
    refine aD fun _ K=>?_;simp(disch:=omega) only[kd,bi];apply K
    refine bC rfl ?_;refine aE (aK ?_);refine aD fun _ K=>?_;simp(disch:=omega) only[kd,aa,hli,fR];apply K
    refine aG [⟨3,_,_,_,cF⟩] [] fun _ K=>?_;simp only[kd,iU,aa];apply K
    refine aS rfl ?_;refine aD fun _ K=>?_;simp only[kd];apply K
    rw[hr];refine aI ⟨.inr rfl,uK rfl rfl ?_⟩;simp(disch:=omega) only[kd,Tryz.results48]
  have hin:i=n:=by omega
  subst hin;refine aD fun _ K=>?_;simp(disch:=omega) only[kd,bi];apply K
  refine bJ rfl ?_;show bs _ _ _ _;have hfit: ∀a,a<i->FitB M.length (l.getD a [])=true:=hg;clear hg;obtain⟨n,hni⟩: ∃n,n=i:=⟨_,rfl⟩;subst hni;refine aD fun _ K=>?_;simp(disch:=omega) only[kd,aa,hln];apply K
  refine aE (aD fun _ K=>?_);simp only[kd,aa,hln];apply K;refine aT (G:=jD n) (fun g=>⟨(bi M::bi l::j4 (jk::jk::.one (.sl 33 0 0 n)::j16 (j4 (j4 (jk::jk::rN n::rN g.i::j16 (j16 (j16 (j4 ([]))))))))),Hm [(33,kI 33 n n g.i (fun _ _=>0))]⟩) (fun g=>n-g.i) ⟨0,by omega⟩ ?_ ?_
  ·refine aF ⟨?_,trivial⟩ ?_
   ·show[_]=_;simp[kI,gm,bu]
   simp[wk]
  rintro⟨i,hi⟩;simp only;by_cases hm:i<n
  ·have k1:=qL (i:=i) (n:=n) 33 n hm;have k2:=jt (i:=i) (n:=n) 33 n hi;have k3:=aV i n (fun _ _=>(0:Int));have k4:=nB (i:=i) (n:=n) (c:=n) 33 (fun _ _=>(0:Int)) hm (fun j hj=>rfl);refine aD fun _ K=>?_;simp(disch:=omega) only[kd,bi];apply K
   refine bC rfl ?_;refine aE (aK ?_);refine aD fun _ K=>?_;simp only[kd];apply K
   refine aM fun _ K=>?_;simp(disch:=omega) only[kd,aa,hln,ab,k1,ah,List.length_replicate,List.all_replicate,k3,k4,Nat.reduceBEq];apply K
   show bs _ _ _ _;refine aM fun _ K=>?_;simp(disch:=omega) only[kd,aP];apply K
   refine⟨⟨i+1,by omega⟩,by simp only;omega,aF ⟨?_,trivial⟩ ?_⟩
   ·first|exact k4|rfl
   simp[wk]
  have hin:i=n:=by omega
  subst hin;refine aD fun _ K=>?_;simp(disch:=omega) only[kd,bi];apply K
  refine bJ rfl ?_;show bs _ _ _ _;rw[mG];obtain⟨n,hni⟩: ∃n,n=i:=⟨_,rfl⟩;subst hni;refine aE (aD fun _ K=>?_);simp only[kd,aa,hln];apply K;refine aT (G:=Qo n (fun a=> ∀b,b<=a->PG M l a b)) (fun g=>⟨(bi M::bi l::j4 (jk::jk::.one (.sl 33 0 0 n)::j16 (j16 (j4 (jk::bi l::rN n::rN g.i::j16 (j16 (j4 (j4 ([]))))))))),Hm [(33,de 33 n n (BW (vG M l) g.i 0))]⟩) (fun g=>n-g.i) ⟨0,by omega,fun a h=>by omega⟩ ?_ ?_
  ·refine aF ⟨?_,trivial⟩ ?_
   ·show _::_=_::_;rw[cw fun a b _ _=>(Ir (vG M l) a b).symm]
   simp[wk]
  rintro⟨i,hi,hg⟩;simp only;by_cases hm:i<n
  ·have hli:=xG (l:=l) (i:=i) (by omega);have cA:=Jj M (l.getD i []) hred (hfit i hm);refine aD fun _ K=>?_;simp(disch:=omega) only[kd,bi];apply K
   refine bC rfl ?_;refine aE (aK ?_);refine aD fun _ K=>?_;simp(disch:=omega) only[kd,aa,hli,fR];apply K
   refine aG [⟨2,_,_,_,cA⟩] [] fun _ K=>?_;simp only[kd,bi,iU,aa];apply K
   refine aD fun _ K=>?_;simp(disch:=omega) only[kd,aa,aP];apply K
   refine aT (G:=Qo (i+1) (fun b=>PG M l i b)) (fun g=>⟨(bi M::bi l::j4 (jk::jk::.one (.sl 33 0 0 n)::jk::rN i::jk::iU (dK M (l.getD i []))::j16 (j16 (jk::bi l::rN n::rN i::j4 (j4 (.raw (.int .i64 ((i+1:Nat):Int))::rN g.i::j16 (j4 (j4 (j4 (jk::jk::[])))))))))),Hm [(33,de 33 n n (BW (vG M l) i g.i))]⟩) (fun g=>i+1-g.i) ⟨0,by omega,fun a h=>by omega⟩ ?_ ?_
   ·refine aF ⟨rfl,trivial⟩ ?_;simp[wk]
   rintro⟨j,hj,hh⟩;simp only;by_cases hm2:j<i+1
   ·have hlj:=xG (l:=l) (i:=j) (by omega);have cD:=OG M (l.getD j []) (l.getD i []) hred (hfit j (by omega)) (hfit i hm);have hsy:=KD (i:=i) (j:=j) hred (hfit i hm) (hfit j (by omega));rw[show eW (l.getD j []) (dK M (l.getD i [])) (l.getD j []).length=vG M l j i from rfl,<- hsy]at cD;by_cases hp:PG M l i j
    ·rw[show Pq (vG M l i j)=Gs (vG M l i j) true from if_pos ⟨hp.lo,hp.hi⟩]at cD;have g1:=bO (n:=n) (i:=i) 33 n hm;have g2:=bO (n:=n) (i:=j) 33 n (by omega);have g3:=cL (n:=n) n (BW (vG M l) i j) (i:=i) hm;have g4:=aU (BW (vG M l) i j i) (show j<n by omega);have g5:=cL (n:=n) n (upd (BW (vG M l) i j) i j (vG M l i j)) (i:=j) (show j<n by omega);have g6:=aU (upd (BW (vG M l) i j) i j (vG M l i j) j) hm;refine aD fun _ K=>?_;simp(disch:=omega) only[kd,bi,iU];apply K
     refine bC rfl ?_;refine aE (aK ?_);refine aD fun _ K=>?_;simp only[kd];apply K
     refine aG [⟨5,_,_,_,cD⟩] [] fun _ K=>?_;simp(disch:=omega) only[kd,iU,Gs,aa,hlj,fR];apply K
     refine aE (aD fun _ K=>?_);simp only[kd];apply K;refine aO rfl (aL ?_);show bs _ _ _ _;refine gz aZ (by kernel_rfl) fun _ K=>?_;simp(disch:=omega) only[kd,aa,g1,g2,g3,g4,fj,g5,g6];apply K
     show bs _ _ _ _;refine aM fun _ K=>?_;simp(disch:=omega) only[kd,aP];apply K
     refine⟨⟨j+1,by omega,fun a ha=>?_⟩,by simp only;omega,aF ⟨?_,trivial⟩ ?_⟩
     ·by_cases h:a=j
      ·subst h;exact hp
      exact hh a (by omega)
     ·show _::_=_::_;rw[cw fun a b _ _=>Iq (f:=vG M l) rfl hsy.symm a b]
     simp[wk]
    have hw:Pq (vG M l i j)=Gs 0 false:=if_neg fun h=>hp ⟨hfit i hm,hfit j (by omega),h.1,h.2⟩
    rw[hw]at cD;have hr:=hno (fun h=>hp (h.2 i (by omega) j (by omega)));refine aD fun _ K=>?_;simp(disch:=omega) only[kd,bi,iU];apply K
    refine bC rfl ?_;refine aE (aK ?_);refine aD fun _ K=>?_;simp only[kd];apply K
    refine aG [⟨5,_,_,_,cD⟩] [] fun _ K=>?_;simp(disch:=omega) only[kd,iU,Gs,aa,hlj,fR];apply K
    refine aE (aD fun _ K=>?_);simp only[kd];apply K;refine aS rfl ?_;refine aD fun _ K=>?_;simp only[kd];apply K
    rw[hr];refine aI ⟨.inr rfl,uK rfl rfl ?_⟩;simp(disch:=omega) only[kd,Tryz.results48]
   have hjc:j=i+1:=by omega
   subst hjc;refine aD fun _ K=>?_;simp(disch:=omega) only[kd,bi,iU];apply K
   refine bJ rfl ?_;show bs _ _ _ _;refine aM fun _ K=>?_;simp(disch:=omega) only[kd,aP];apply K
   refine⟨⟨i+1,by omega,fun a ha b hb=>?_⟩,by simp only;omega,aF ⟨?_,trivial⟩ ?_⟩
   ·by_cases h:a=i
    ·subst h;exact hh b (by omega)
    exact hg a (by omega) b hb
   ·show _::_=_::_;rw[cw fun a b _ _=>LD (vG M l) i a b]
   simp[wk]
  have hin:i=n:=by omega
  subst hin;have hr:=hyes ⟨hred,fun a ha b hb=>by
   by_cases h:b<=a
   ·exact hg a (by omega) b h
   have h1:=hg b (by omega) a (by omega);have hs:=KD (i:=a) (j:=b) hred (hfit a (by omega)) (hfit b (by omega));exact⟨h1.y,h1.x,by rw[hs];exact h1.lo,by rw[hs];exact h1.hi⟩⟩
  refine aD fun _ K=>?_;simp(disch:=omega) only[kd,bi];apply K
  refine bJ rfl ?_;show bs _ _ _ _;have e:de 33 i i (BW (vG M l) i 0)=de 33 i i (vG M l):=by
   show _::_=_::_;rw[cw fun a b ha hb=>LC ha hb]
  rw[e];rw[hr];refine aD fun _ K=>?_;simp only[kd,aa];apply K
  refine aI ⟨.inr rfl,CB (d:=33) rfl ?_ (by decide)⟩;simp(disch:=omega) only[kd,Tryz.results48]
end Go.Proofs.YtfgeomlagfomgaaGreatDoor
