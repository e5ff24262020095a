/-
  Part 22 of a proof (walks and plain facts).
-/
import Derived.Test.YtfgeomlagfomgaaGreatDoorR20
import Derived.ProofKit
import Derived.LaidMore
import Derived.LaidLaws
import Derived.LaidHandle
import Derived.OpenShut
set_option linter.all false
set_option maxRecDepth 100000
set_option maxHeartbeats 64000000
open Nat renaming reduceAdd → aa
open Nat renaming reduceEqDiff → ab
open List renaming replicate → ae
open Nat renaming reduceBEq → af
open Nat renaming reduceLeDiff → ah
open List renaming length_replicate → aw
open List renaming getElem?_map → ax
namespace Go.Proofs.YtfgeomlagfomgaaGreatDoor
open Go.RowKit
abbrev je:List PV:=[.raw (.int .i64 1),.raw (.int .i64 3),.raw (.int .i64 9),.raw (.int .i64 27)]
theorem Ia (i code j:Nat): -1<=cnd i code j/\cnd i code j<=1:=by
 unfold cnd;split
 ·exact DO code j
 split<;>omega
theorem N0 {i:Nat}:a4 (PB (fun _=>0) i 1)=a4 (eC i):=pz fun j _=>by unfold PB eC;rfl
theorem Ir {c c':Nat->Int} {b:Bool} (h:b=true↔ ∀j,j<4->c j=c' j):B5 (a4 c) (a4 c')=some b:=by
 have e:B5 (a4 c) (a4 c')=some (decide (c 0=c' 0)&&(decide (c 1=c' 1)&&(decide (c 2=c' 2)&&(decide (c 3=c' 3)&&true)))):=rfl;rw[e]
 congr 1
 apply Bool.eq_iff_iff.2;rw[h];simp only[Bool.and_eq_true,decide_eq_true_eq,and_true];constructor
 ·rintro⟨h0,h1,h2,h3⟩ j hj
  match j,hj with
  |0,_=>exact h0
  |1,_=>exact h1
  |2,_=>exact h2
  |3,_=>exact h3
 exact fun h=>⟨h 0 (by omega),h 1 (by omega),h 2 (by omega),h 3 (by omega)⟩
theorem BD:packT Tryz.prog 3 [.raw (.int .i64 1),.raw (.int .i64 3),.raw (.int .i64 9),.raw (.int .i64 27)]=some (.raw (.int .i64 1)):=by kernel_rfl
theorem BE:packT Tryz.prog 3 [.raw (.int .i64 3),.raw (.int .i64 9),.raw (.int .i64 27)]=some (.raw (.int .i64 3)):=by kernel_rfl
theorem BG:packT Tryz.prog 3 [.raw (.int .i64 9),.raw (.int .i64 27)]=some (.raw (.int .i64 9)):=by kernel_rfl
theorem BH:packT Tryz.prog 3 [.raw (.int .i64 27)]=some (.raw (.int .i64 27)):=by kernel_rfl
theorem Fl {i:Nat} (h:i<4):packT Tryz.prog 3 ((je.drop i).map AV.p)=some (.raw (.int .i64 ((3^i:Nat):Int))):=by
 match i,h with
 |0,_=>exact BD
 |1,_=>exact BE
 |2,_=>exact BG
 |3,_=>exact BH
structure QR (i:Nat) where
 k:Nat
 hk:k<=3^i
theorem Am (n:Nat) (f:FF) (i:Nat) (hi:i<n) (hn:n<=4) (hf: ∀i j,i<n->j<n-> -1125899906842624<=f i j/\f i j<=1125899906842624):
  CallG Tryz.prog 0 138 77 [slI (mat n n f),.raw (.int .i64 (i:Int))] je ⟨[],tC (lf n f i (3^i))⟩:=by
 have hi4:i<4:=by omega
 have h3i:3^i<=27:=Nat.le_trans (Nat.pow_le_pow_right (by omega) (show i<=3 by omega)) (by decide);have a1:=xE (fun _=>0) 1 hi4;rw[N0]at a1;refine dq Tryz.func77 rfl (by kernel_rfl) ?_;rw[Tryz.ntmps77];refine aM fun _ K=>?_;simp(disch:=omega) only[kd,slI,aa,ae];apply K
 refine aM fun _ K=>?_;simp(disch:=omega) only[kd,aa,ab];apply K
 refine de.weak (aE (tm:=(slI (mat n n f)::rN i::jk::jk::.one (.ptr 4 0 0 0)::.one (.ptr 5 0 0 0)::j16 (j4 (jk::jk::jk::[])))) (l:=[(4,Fd fun _=>0),(5,Fd fun _=>0)]) ⟨rfl,rfl,trivial⟩ (by simp[wk])) ?_;refine aM fun _ K=>?_;simp(disch:=omega) only[kd,aa,slI,hi4,ab,eu,ah,a1];apply K
 refine bx (E7 2 i 12 (.raw (.int .i64 ((3^i:Nat):Int))) [] [] (by simp[wk]) (by decide) fun K hK=>?_);simp(disch:=omega) only[kd,hi4];apply hK;clear hK K;refine⟨⟨⟨_,_,_,rfl,rfl,rfl,rfl,by simp[AS.ev],?_⟩⟩,by simp[wk],?_⟩
 ·exact Fl hi4
 intro K hK;simp only[kd,aa];apply hK;clear hK K;refine fq (G:=QR i) (fun g=>⟨(slI (mat n n f)::rN i::jk::jk::.one (.ptr 4 0 0 0)::.one (.ptr 5 0 0 0)::j4 (jk::jk::.raw (.int .i64 ((3^i:Nat):Int))::rN g.k::j4 (j4 (j4 (jk::jk::jk::[]))))),Hm [(4,Fd fun _=>0),(5,Fd (lf n f i g.k))]⟩) (fun _=>je) (fun g=>3^i-g.k) ⟨0,Nat.zero_le _⟩ ?_ rfl ?_
 ·refine aE ⟨rfl,rfl,trivial⟩ ?_;simp[wk]
 rintro⟨k,hk⟩;simp only;by_cases hm:k<3^i
 ·have hC:=yf i k hi4 (by omega);have hN1:=Ed n f (cnd i k) (by omega) hn hf (Ia i k);have hN2:=Ed n f (lf n f i k) (by omega) hn hf (CX n f i k).2.2;refine aM fun _ K=>?_;simp(disch:=omega) only[kd,slI];apply K
  refine iX rfl ?_;refine bx (bV ?_);refine aM fun _ K=>?_;simp only[kd];apply K
  refine cw [⟨2,_,_,_,hC⟩] [] fun _ K=>?_;simp(disch:=omega) only[kd,tC,aa,my,tf,ab,eu,gp];apply K
  by_cases hlt:nrm n f (cnd i k)<nrm n f (lf n f i k)
  ·have es:lf n f i (k+1)=cnd i k:=by rw[lf,if_pos hlt]
   refine nB aW [⟨2,_,_,_,hN1⟩,⟨5,_,_,_,hN2⟩] [] (by kernel_rfl) fun _ K=>?_;simp(disch:=omega) only[kd,slI,tC,aa,ab,eu,gP,gp,af];apply K
   refine dU rfl ?_;refine cd fun _ K=>?_;simp(disch:=omega) only[kd,ab,eu,gP,gp,mw];apply K
   show de _ _ _ _ _ _ _;refine cd fun _ K=>?_;simp(disch:=omega) only[kd,aO];apply K
   refine⟨⟨k+1,by omega⟩,by simp only;omega,aE ⟨rfl,?_,trivial⟩ ?_,rfl⟩
   ·show _=Fd (lf n f i (k+1));rw[es];rfl
   simp[wk]
  have es:lf n f i (k+1)=lf n f i k:=by rw[lf,if_neg hlt]
  refine nB aW [⟨2,_,_,_,hN1⟩,⟨5,_,_,_,hN2⟩] [] (by kernel_rfl) fun _ K=>?_;simp(disch:=omega) only[kd,slI,tC,aa,ab,eu,gP,gp,af];apply K
  refine cJ rfl (eB ?_);show de _ _ _ _ _ _ _;refine cd fun _ K=>?_;simp(disch:=omega) only[kd,aO];apply K
  refine⟨⟨k+1,by omega⟩,by simp only;omega,aE ⟨rfl,?_,trivial⟩ ?_,rfl⟩
  ·show _=Fd (lf n f i (k+1));rw[es];rfl
  simp[wk]
 have hke:k=3^i:=by omega
 subst hke;refine aM fun _ K=>?_;simp(disch:=omega) only[kd,slI];apply K
 refine lw rfl ?_;show de _ _ _ _ _ _ _;refine aM fun _ K=>?_;simp(disch:=omega) only[kd,ab,eu,gP,gp,mw];apply K
 (refine cX ⟨.inr rfl,rfl,aG rfl ?_ rfl⟩;simp(disch:=omega) only[kd,Tryz.results77,ab,eu,gP,tC])
noncomputable def vJ (n:Nat) (f:FF):TV:=match GR n f with
 |some i=> .tup [(false,[.p (.raw (.int .i64 (i:Int)))]),(true,a4 (lf n f i (3^i))),(false,[.p (.raw (.bool true))])]
 |none=> .tup [(false,[.p (.raw (.int .i64 0))]),(true,a4 fun _=>0),(false,[.p (.raw (.bool false))])]
theorem EP {n:Nat} {f:FF} (i:Nat) (hi:i<n) (h: ∀a,a<i-> ¬VioP n f a) (hv:VioP n f i): ∀m j,j<=i->i<j+m->rx n f m j=some i
 |0,j,h1,h2=>by omega
 |m+1,j,h1,h2=>by
  rw[rx];by_cases e:j=i
  ·subst e;rw[if_pos hv]
  rw[if_neg (h j (by omega))];exact EP i hi h hv m (j+1) (by omega) (by omega)
theorem EQ {n:Nat} {f:FF} (h: ∀a,a<n-> ¬VioP n f a): ∀m j,j+m<=n->rx n f m j=none
 |0,_,_=>rfl
 |m+1,j,h2=>by rw[rx,if_neg (h j (by omega))];exact EQ h m (j+1) (by omega)
structure RT (n:Nat) (f:FF) where
 i:Nat
 hi:i<=n
 ok: ∀a,a<i-> ¬VioP n f a
theorem rO (n:Nat) (f:FF) (hn1:1<=n) (hn:n<=4) (hf: ∀i j,i<n->j<n-> -1125899906842624<=f i j/\f i j<=1125899906842624):
  CallG Tryz.prog 0 138 36 [slI (mat n n f)] je ⟨[],vJ n f⟩:=by
 have hml:=aU n n f;refine dq Tryz.func36 rfl (by kernel_rfl) ?_;rw[Tryz.ntmps36];refine aM fun _ K=>?_;simp(disch:=omega) only[kd,aa,slI,ae];apply K
 refine bx (aM fun _ K=>?_);simp only[kd,aa,hml];apply K;refine fq (G:=RT n f) (fun g=>⟨(slI (mat n n f)::jk::.raw (.int .i64 0)::.one (.ptr 3 0 0 0)::.raw (.bool false)::j4 (.raw (.int .i64 (n:Int))::rN g.i::j4 (j4 (j4 (jk::jk::[]))))),Hm [(3,Fd fun _=>0)]⟩) (fun _=>je) (fun g=>n-g.i) ⟨0,by omega,fun a ha=>by omega⟩ ?_ rfl ?_
 ·refine aE ⟨rfl,trivial⟩ ?_;simp[wk]
 rintro⟨i,hi,ok⟩;simp only;by_cases hm:i<n
 ·have hi4:i<4:=by omega
  have hS:=Am n f i hm hn hf;have a1:=xE (fun _=>0) 1 hi4;rw[N0]at a1;have h4:(∀j,j<4->lf n f i (3^i) j=eC i j)↔ ¬VioP n f i:=by
   rw[<- M1 hm];refine⟨fun h j hj=>h j (by omega),fun h j hj=>?_⟩;rcases Nat.lt_trichotomy j i with h1|h1|h1
   ·exact h j (by omega)
   ·exact h j (by omega)
   rw[(CX n f i (3^i)).2.1 j h1];unfold eC;rw[if_neg (by omega)]
  refine aM fun _ K=>?_;simp(disch:=omega) only[kd,slI];apply K
  refine iX rfl ?_;refine bx (bV ?_);refine aM fun _ K=>?_;simp only[kd];apply K
  refine aM fun _ K=>?_;simp(disch:=omega) only[kd,aa,ab];apply K
  refine de.weak (aE (tm:=(slI (mat n n f)::jk::.raw (.int .i64 0)::.one (.ptr 3 0 0 0)::.raw (.bool false)::rN i::.one (.ptr 6 0 0 0)::jk::jk::rN n::rN i::j4 (j4 (j4 (jk::jk::[]))))) (l:=[(3,Fd fun _=>0),(6,Fd fun _=>0)]) ⟨rfl,rfl,trivial⟩ (by simp[wk])) ?_;refine aM fun _ K=>?_;simp(disch:=omega) only[kd,aa,slI,hi4,ab,eu,ah,a1];apply K
  refine cy [⟨2,_,_,_,hS,rfl⟩] [] [] fun _ K=>?_;simp(disch:=omega) only[kd,slI,tC,dI.a,aa,my,tf,ab,eu,gp];apply K
  by_cases hv:VioP n f i
  ·have hE:B5 (a4 (lf n f i (3^i))) (a4 (eC i))=some false:=Ir ⟨fun h=>(by cases h),fun h=>absurd (h4.1 h) (by simpa using hv)⟩;have hvi:GR n f=some i:=EP i hm ok hv n 0 (by omega) (by omega);have eT:vJ n f= .tup [(false,[.p (.raw (.int .i64 (i:Int)))]),(true,a4 (lf n f i (3^i))),(false,[.p (.raw (.bool true))])]:=by unfold vJ;rw[hvi]
   rw[eT];refine aM fun _ K=>?_;simp(disch:=omega) only[kd,aa,ab,eu,gP,hE];apply K
   refine dU rfl ?_;refine ef aW (by kernel_rfl) fun _ K=>?_;simp(disch:=omega) only[kd,aa,ab,eu,gP,gp,mw];apply K
   (refine cX ⟨.inr rfl,rfl,aG rfl ?_ rfl⟩;simp(disch:=omega) only[kd,Tryz.results36,ab,eu,gP])
  have hE:B5 (a4 (lf n f i (3^i))) (a4 (eC i))=some true:=Ir ⟨fun _=>h4.2 hv,fun _=>rfl⟩;refine aM fun _ K=>?_;simp(disch:=omega) only[kd,aa,ab,eu,gP,hE];apply K
  refine cJ rfl (eB ?_);show de _ _ _ _ _ _ _;refine cd fun _ K=>?_;simp(disch:=omega) only[kd,aO];apply K
  refine⟨⟨i+1,by omega,fun a ha=>?_⟩,by simp only;omega,aE ⟨rfl,trivial⟩ ?_,rfl⟩
  ·by_cases e:a=i
   ·subst e;exact hv
   exact ok a (by omega)
  simp[wk]
 have hin:i=n:=by omega
 have hvi:GR n f=none:=EQ (fun a ha=>ok a (by omega)) n 0 (by omega);have eT:vJ n f= .tup [(false,[.p (.raw (.int .i64 0))]),(true,a4 fun _=>0),(false,[.p (.raw (.bool false))])]:=by unfold vJ;rw[hvi]
 rw[eT];subst hin;refine aM fun _ K=>?_;simp(disch:=omega) only[kd,slI];apply K
 refine lw rfl ?_;show de _ _ _ _ _ _ _;refine aM fun _ K=>?_;simp(disch:=omega) only[kd,aa,eu,mw];apply K
 (refine cX ⟨.inr rfl,rfl,aG rfl ?_ rfl⟩;simp(disch:=omega) only[kd,Tryz.results36,aa,a4])
def ox (M:List (List Int)):Prop:=v7 M/\MinkP (ent M) M.length
structure RG (M:List (List Int)) where
 i:Nat
 hi:i+1<=M.length
 ok: ∀a,a<i->ent M a a<=ent M (a+1) (a+1)/\0<=ent M a (a+1)
theorem jg (M:List (List Int)) (r:Bool) (hr:r=true↔ox M):
  CallG Tryz.prog 0 138 14 [slI M] je ⟨[],.raw (.bool r)⟩:=by
 by_cases hF:v7 M
 ·have hI:=wN M true (by simp[hF]);have hn1:=hF.1.1;have hn4:=hF.1.2;have eM:M=mat M.length M.length (ent M):=j6 (M:=M) (m:=M.length) fun q hq=>(hF.2.1 q hq).1
  have hV:=rO M.length (ent M) hn1 hn4 fun i j hi hj=>hF.entB hi hj
  rw[<- eM]at hV;refine dq Tryz.func14 rfl (by kernel_rfl) ?_;rw[Tryz.ntmps14];refine aM fun _ K=>?_;simp only[kd,slI,ae];apply K
  refine bx (cw [⟨1,_,_,_,hI⟩] [] fun _ K=>?_);simp only[kd,slI,aa];apply K;refine cJ rfl (eB ?_);show de _ _ _ _ _ _ _;refine bx (aM fun _ K=>?_);simp(disch:=omega) only[kd,aa,aO];apply K;have en:(M.length:Int)-1=((M.length-1:Nat):Int):=by omega
  refine fq (G:=RG M) (fun g=>⟨(slI M::jk::.raw (.bool false)::j4 (j4 (jk::.raw (.int .i64 ((M.length-1:Nat):Int))::rN g.i::j16 (j16 (j4 (jk::jk::jk::[])))))),Hm []⟩) (fun _=>je) (fun g=>M.length-g.i) ⟨0,hn1,fun a ha=>by omega⟩ ?_ rfl ?_
  ·refine aE trivial ?_;simp[wk,en]
  rintro⟨i,hi,ok⟩;simp only;by_cases hm:i+1<M.length
  ·have m1:=bs M.length (ent M) (show i<M.length by omega);have m2:=bs M.length (ent M) hm;rw[<- eM]at m1 m2;have c1:=aR (ent M i) (show i<M.length by omega);have c2:=aR (ent M (i+1)) hm;have c3:=aR (ent M i) hm;have e1:((i:Int)+1).toNat=i+1:=by omega
   by_cases hd:ent M (i+1) (i+1)<ent M i i
   ·have hr0:r=false:=by
     cases r with
     |false=>rfl
     |true=>have:=((hr.1 rfl).2.1 i hm).1;omega
    subst hr0;refine aM fun _ K=>?_;simp(disch:=omega) only[kd,slI];apply K
    refine iX rfl ?_;refine bx (bV ?_);refine aM fun _ K=>?_;simp only[kd];apply K
    refine ef aW (by kernel_rfl) fun _ K=>?_;simp(disch:=omega) only[kd,aa,m1,fR,c1,aO,e1,m2,c2,reduceCtorEq];apply K
    refine dU rfl ?_;refine aM fun _ K=>?_;simp only[kd];apply K
    (refine cX ⟨.inr rfl,rfl,aG rfl ?_ rfl⟩;simp(disch:=omega) only[kd,Tryz.results14])
   by_cases hs:ent M i (i+1)<0
   ·have hr0:r=false:=by
     cases r with
     |false=>rfl
     |true=>have:=((hr.1 rfl).2.1 i hm).2;omega
    subst hr0;refine aM fun _ K=>?_;simp(disch:=omega) only[kd,slI];apply K
    refine iX rfl ?_;refine bx (bV ?_);refine aM fun _ K=>?_;simp only[kd];apply K
    refine ef aW (by kernel_rfl) fun _ K=>?_;simp(disch:=omega) only[kd,aa,m1,fR,c1,aO,e1,m2,c2,c3];apply K
    refine dU rfl ?_;refine aM fun _ K=>?_;simp only[kd];apply K
    (refine cX ⟨.inr rfl,rfl,aG rfl ?_ rfl⟩;simp(disch:=omega) only[kd,Tryz.results14])
   refine aM fun _ K=>?_;simp(disch:=omega) only[kd,slI];apply K
   refine iX rfl ?_;refine bx (bV ?_);refine aM fun _ K=>?_;simp only[kd];apply K
   refine ef aW (by kernel_rfl) fun _ K=>?_;simp(disch:=omega) only[kd,aa,m1,fR,c1,aO,e1,m2,c2,c3];apply K
   refine cJ rfl (eB ?_);show de _ _ _ _ _ _ _;refine cd fun _ K=>?_;simp(disch:=omega) only[kd,aO];apply K
   refine⟨⟨i+1,by omega,fun a ha=>?_⟩,by simp only;omega,aE trivial ?_,rfl⟩
   ·by_cases e:a=i
    ·subst e;exact⟨by omega,by omega⟩
    exact ok a (by omega)
   simp[wk]
  refine aM fun _ K=>?_;simp(disch:=omega) only[kd,slI];apply K
  refine lw rfl ?_;show de _ _ _ _ _ _ _;cases hv:GR M.length (ent M)with
  |none=>
   have hr1:r=true:=hr.2 ⟨hF,fun a ha=>ok a (by omega),fun a ha=>xp _ 0 hv a (by omega) (by omega)⟩;subst hr1;have eT:vJ M.length (ent M)= .tup [(false,[.p (.raw (.int .i64 0))]),(true,a4 fun _=>0),(false,[.p (.raw (.bool false))])]:=by unfold vJ;rw[hv]
   rw[eT]at hV;refine cy [⟨1,_,_,_,hV,rfl⟩] [] [] fun _ K=>?_;simp(disch:=omega) only[kd,slI,dI.a,aa,my,tf,eu,gp];apply K
   refine aM fun _ K=>?_;simp only[kd,aa];apply K
   (refine cX ⟨.inr rfl,rfl,aG rfl ?_ rfl⟩;simp(disch:=omega) only[kd,Tryz.results14])
  |some k=>
   obtain⟨_,k1,k2,_⟩:=xq _ 0 k hv;have hr0:r=false:=by
    cases r with
    |false=>rfl
    |true=>exact absurd k2 ((hr.1 rfl).2.2 k (by omega))
   subst hr0;have eT:vJ M.length (ent M)= .tup [(false,[.p (.raw (.int .i64 (k:Int)))]),(true,a4 (lf M.length (ent M) k (3^k))),(false,[.p (.raw (.bool true))])]:=by unfold vJ;rw[hv]
   rw[eT]at hV;refine cy [⟨1,_,_,_,hV,rfl⟩] [] [] fun _ K=>?_;simp(disch:=omega) only[kd,slI,dI.a,aa,my,tf,eu,gp];apply K
   refine aM fun _ K=>?_;simp only[kd,aa];apply K
   (refine cX ⟨.inr rfl,rfl,aG rfl ?_ rfl⟩;simp(disch:=omega) only[kd,Tryz.results14])
 have hr0:r=false:=by
  cases r with
  |false=>rfl
  |true=>exact absurd (hr.1 rfl).1 hF
 subst hr0;have hI:=wN M false (by simp[hF]);refine dq Tryz.func14 rfl (by kernel_rfl) ?_;rw[Tryz.ntmps14];refine aM fun _ K=>?_;simp only[kd,slI,ae];apply K
 refine bx (cw [⟨1,_,_,_,hI⟩] [] fun _ K=>?_);simp only[kd,slI,aa];apply K;refine dU rfl ?_;refine aM fun _ K=>?_;simp only[kd];apply K
 (refine cX ⟨.inr rfl,rfl,aG rfl ?_ rfl⟩;simp(disch:=omega) only[kd,Tryz.results14])
section
open Go.ChangeShapes Go.WideShapes Go.ChangeAt Go.WideMaps Go.WideElems Go.RowKit
theorem Qe : Tryz.prog.globalNamed "quadform/minkowski.conditions" = some 0 := by kernel_rfl
theorem Qw:(Tryz.prog.globals[0]?).map (·.type)=some 138:=by kernel_rfl
abbrev rM : List (String × DataW Unit) := [("quadform/minkowski.conditions", Rows.laid_quadform_minkowski_conditions)]
theorem rF {W:World} (h:laidMetH Tryz.prog rM W):xw 0 138 je W:=by
 rw[MakeChecks.laidMetH_plain _ _ _ (by kernel_rfl)]at h;obtain⟨ps,⟨g0,t0,cs0,f0,p0,q0,hg0,ht0,hv0,hd0,_,_⟩,_,_⟩:=h;obtain rfl:=Option.some.inj (Qe.symm.trans hg0);obtain rfl:=Option.some.inj (Qw.symm.trans ht0);obtain⟨xs,m1,rfl,hx1,hlen,hn3,hel⟩:=DataW.trod_array Tryz.underlying138 hd0;have c3:Tryz.prog.cellsOf 3=1:=by kernel_rfl
 have c4:Tryz.prog.cellsOf 138=4:=by kernel_rfl
 rw[c4]at hlen;have hcell: ∀i,i<4-> ∃k:Int,cs0[i]?=some (.int .i64 k)/\(xs[i]?).map (·.1)=some (.lit (.int .i64 k)):=fun i hi=>by
  have h1:=hel i hi;rw[c3,Nat.mul_one]at h1;obtain⟨y,hy⟩: ∃y,xs[i]?=some y:=⟨xs[i]'(by omega),List.getElem?_eq_getElem (by omega)⟩;rw[hy]at h1;obtain⟨k,e1,e2,_⟩:=DataW.trod_int Tryz.underlying3 h1;refine⟨k,?_,by rw[hy,e2];rfl⟩;have h2:=congrArg (fun l=>l[0]?) e1;simp only[List.getElem?_take,List.getElem?_drop,Nat.add_zero]at h2;simpa using h2
 have hx:xs.map (·.1)=[.lit (.int .i64 1),.lit (.int .i64 3),.lit (.int .i64 9),.lit (.int .i64 27)]:=by
  simp only[Prod.mk.injEq,Rows.laid_quadform_minkowski_conditions,DataW.agg.injEq]at hx1;exact hx1.1.symm
 have hat: ∀(i:Nat) (k:Int),i<4->(xs.map (·.1))[i]?=some (.lit (.int .i64 k))->W.cell? ⟨0,i,none⟩=some (.int .i64 k):=fun i k hi hk=>by
  obtain⟨k',h1,h2⟩:=hcell i hi;rw[ax,h2]at hk;have:k'=k:=by simpa using hk
  subst this;rw[World.var?_cell hg0 hv0 i,h1]
 rw[hx]at hat;have a0:=hat 0 1 (by omega) rfl;have a1:=hat 1 3 (by omega) rfl;have a2:=hat 2 9 (by omega) rfl;have a3:=hat 3 27 (by omega) rfl;refine⟨jV a0,fun j x hx=>?_⟩
 match j,hx with
 |0,hx=>simp at hx;exact⟨_,hx.symm,a0,rfl⟩
 |1,hx=>simp at hx;exact⟨_,hx.symm,a1,rfl⟩
 |2,hx=>simp at hx;exact⟨_,hx.symm,a2,rfl⟩
 |3,hx=>simp at hx;exact⟨_,hx.symm,a3,rfl⟩
 |j+4,hx=>simp at hx
theorem zQ (os:Os) (args:Array Value):laidMetH Tryz.prog rM ((World.doorLaid Tryz.prog 400 os).forCall (fun _ _=>0) ⟨#[],args,[]⟩).memory:=
 laidMetH_of_parts3 (fuel:=8) (laidMet_of_run' 8 (by kernel_rfl) (by kernel_rfl)) (by kernel_rfl) (by kernel_rfl)
theorem CallG.law {P:Program} {b:Nat} {ty:TypeId} {f:FuncId} {args:List TV} {cs:List PV} {r:Bool} (h:CallG P b ty f args cs ⟨[],.raw (.bool r)⟩) {w:World} (hb:xw b ty cs w) {vs:Array Value} (hvs:vs.size=args.length)
  (ha: ∀(j:Nat) t,args[j]?=some t-> ∃v:Value,vs[j]?=some v/\t.rel (fun _ _=>none) (fun _=>[]) (fun _=>False) w v):Calls P f vs w fun e w'=>e= .returned (.bool r)/\Ext w w':=
 ((h.2 w hb).2 (fun _=>False) vs (fun b h=>h.elim) hvs ha).mono fun e w' ⟨v,h1,ρ,h2,h3⟩=>⟨by rw[h1,lW h3],Aa h2.keep⟩
end
section
variable {n:Nat}
theorem Kk {x:Int} {A:Nat} (h:x*x<=(A:Int)*(A:Int)): -(A:Int)<=x/\x<=(A:Int):=by
 have h1:x.natAbs*x.natAbs<=A*A:=by
  have e:((x.natAbs*x.natAbs:Nat):Int)=x*x:=Int.natAbs_mul_self;have:((x.natAbs*x.natAbs:Nat):Int)<=((A*A:Nat):Int):=by rw[e,Int.natCast_mul];exact h
  exact Int.ofNat_le.1 this
 have h2:x.natAbs<=A:=by
  rcases Nat.lt_or_ge A x.natAbs with hl|hl
  ·have:=Nat.mul_lt_mul'' hl hl;omega
  exact hl
 omega
theorem CK {h:FF} (hn1:1<=n) (hn:n<=4) (hr:RedR h n) {x:Nat->Int} (hx:nrm n h x<=262144): ∀j,j<n-> -549755813888<=x j/\x j<=549755813888:=fun j hj=>by
 have h1:=Id (B:=262144) hr.pd hj (fun a b ha hb=>by have:=il hn1 (by omega) hr a ha b hb;omega) x hx;have h2:(n*262144)^(n-1)<=1048576^3:=by
  have:n*262144<=1048576:=by omega
  exact Nat.le_trans (Nat.pow_le_pow_left this _) (Nat.pow_le_pow_right (by omega) (by omega))
 have h3:(((n*262144)^(n-1):Nat):Int)<=1152921504606846976:=by
  have e:1048576^3=1152921504606846976:=by decide
  rw[e]at h2;omega
 refine Kk (A:=549755813888) ?_;generalize(((n*262144)^(n-1):Nat):Int)=q at*
 omega
theorem mM {h B:FF} {W:Int} (hp:PD h n) (hB:InB2 n h W B) {a b:Nat} (ha:a<n) (hb:b<n) (A:Nat) (hW:W<=(A:Int)): -(A:Int)<=gmB n h B a b/\gmB n h B a b<=(A:Int):=by
 refine Kk ?_;have h1:=hp.schwarz (B a) (B b);have h2:=hB.nr a ha;have h3:=hB.nr b hb;have h4:=(hp.pos (B a)).1;have h5:=(hp.pos (B b)).1;unfold nrm at h2 h3;unfold gmB;have h6:BF n h (B a) (B a)*BF n h (B b) (B b)<=(A:Int)*(A:Int):=Int.mul_le_mul (by omega) (by omega) h5 (by omega);omega
theorem InB2.one {h:FF} (hn1:1<=n) (hn:n<=8) (hr:RedR h n):InB2 n h 262144 (fun a b=>if a=b then 1 else 0):=by
 refine⟨fun a ha=>?_,?_⟩
 ·have e:(fun b=>if a=b then(1:Int)else 0)=eC a:=by funext b;unfold eC;by_cases h:a=b<;>simp[h,eq_comm]<;>omega
  show nrm n h (fun b=>if a=b then 1 else 0)<=_;rw[e,ux ha];have:=il hn1 hn hr a ha a ha;omega
 have e:trF (fun a b=>if a=b then(1:Int)else 0)=fun i j=>if i=j then 1 else 0:=by
  funext i j;unfold trF;by_cases h:i=j<;>simp[h,eq_comm]<;>omega
 rw[e,Ij];rfl
theorem InB2.sg {h B:FF} {W:Int} (g:FF) (hB:InB2 n h W B):InB2 n h W (Ez g B):=by
 refine⟨fun a ha=>?_,?_⟩
 ·have:=hB.nr a ha;have e:nrm n h (Ez g B a)=nrm n h (B a):=by
   have h1:gmB n h (Ez g B) a a=gmB n h B a a:=by
    rw[OL];unfold Re;rcases sM g a with e|e<;>rw[e]<;>omega
   exact h1
  rw[e];exact this
 have h1:=Kc (g:=g) (B:=B) n (Nat.le_refl n);rw[<- hB.dt,<- h1]
 congr 1
 exact gR fun i j _ hj=>by show pp g j*B j i=if j<n then _ else _;rw[if_pos hj]
theorem InB2.pd {h B:FF} {W:Int} (hp:PD h n) (hB:InB2 n h W B):PD (gmB n h B) n:=by
 rw[x5];exact hp.cng (by have:=hB.dt;omega)
end
/-! Inner products of rows. -/
theorem qa {n:Nat} {h:FF} (hn1:1<=n) (hn:n<=8) (hr:RedR h n):bF (mat n n h)=true:=
 (dN _).2 ((sZ hn1).2 ⟨rfl,hn,hr⟩)
theorem jD {n:Nat} {X:Nat->Int} (hx: ∀j,j<n-> -1099511627776<=X j/\X j<=1099511627776):FitB n (bz n X)=true:=by
 refine iE.2 ⟨bv n X,?_⟩;unfold GT;rw[List.all_eq_true];intro c hc;obtain⟨j,hj⟩:=List.mem_iff_getElem?.1 hc;have hjn:j<n:=by
  have:=(List.getElem?_eq_some_iff.1 hj).1;rwa[bv]at this
 rw[aR _ hjn]at hj;injection hj with hj
 have:=hx j hjn;rw[hj]at this;simp[this]
theorem ol (n:Nat) (X:Nat->Int):(bz n X).take n=bz n X:=List.take_of_length_le (by rw[bv];omega)
theorem D3 {n:Nat} {h:FF} {X Y:Nat->Int} (hn1:1<=n) (hn:n<=8) (hr:RedR h n) (hx: ∀j,j<n-> -1099511627776<=X j/\X j<=1099511627776) (hy: ∀j,j<n-> -1099511627776<=Y j/\Y j<=1099511627776):
  fh (bz n X) (dJ (mat n n h) (bz n Y)) (bz n X).length=BF n h X Y:=by
 have e:=x8 (x:=bz n X) (y:=bz n Y) (qa hn1 hn hr) (by rw[aU];exact jD hx) (by rw[aU];exact jD hy);rw[e,aU];exact ea (fun i j hi hj=>pG h hi hj) (fun i hi=>og X hi) (fun i hi=>og Y hi)
theorem ue {n:Nat} {h:FF} {X Y:Nat->Int} (hn1:1<=n) (hn:n<=8) (hr:RedR h n) (hx: ∀j,j<n-> -1099511627776<=X j/\X j<=1099511627776) (hy: ∀j,j<n-> -1099511627776<=Y j/\Y j<=1099511627776)
  (hb: -4611686018427387904<=BF n h X Y/\BF n h X Y<=4611686018427387904):FE (mat n n h) (bz n X) (bz n Y)=GE (BF n h X Y) true:=by
 unfold FE;rw[if_pos ⟨by unfold kC;rw[qa hn1 hn hr,aU,jD hx];rfl,by rw[aU];exact jD hy⟩,D3 hn1 hn hr hx hy];exact if_pos hb
def Bo (n:Nat) (h:FF) (x:Nat->Int):Prop:=nrm n h x<=262144
theorem Bo.co {n:Nat} {h:FF} {x:Nat->Int} (hn1:1<=n) (hn:n<=4) (hr:RedR h n) (hg:Bo n h x): ∀j,j<n-> -1099511627776<=x j/\x j<=1099511627776:=fun j hj=>by
 have:=CK hn1 hn hr hg j hj;omega
theorem Bo.nn {n:Nat} {h:FF} {x:Nat->Int} (hr:RedR h n):0<=nrm n h x:=(hr.pd.pos x).1
abbrev qM (M:List (List Int)):List PV:=[.sl (ls (fR fI) M)]
abbrev Ox (n:Nat) (h:FF):TV:= .fn 92 [.p (.ptr (qM (mat n n h)))]
theorem Oy {n:Nat} {h:FF} {X Y:Nat->Int} (hn1:1<=n) (hn:n<=4) (hr:RedR h n) (hx:Bo n h X) (hy:Bo n h Y):
  CallC Tryz.prog 92 [iC (bz n X),iC (bz n Y),.one (.p (.ptr (qM (mat n n h))))] ⟨[],.raw (.int .i64 (nrm n h X-nrm n h Y))⟩:=by
 have a0:0<=nrm n h X:=Bo.nn hr;have b0:0<=nrm n h Y:=Bo.nn hr;have a1:nrm n h X<=262144:=hx;have b1:nrm n h Y<=262144:=hy;have c1:=Et (mat n n h) (bz n X);have c2:=Et (mat n n h) (bz n Y);rw[ue hn1 (by omega) hr (hx.co hn1 hn hr) (hx.co hn1 hn hr) (by show _<=nrm n h X/\nrm n h X<=_;omega),show BF n h X X=nrm n h X from rfl]at c1;rw[ue hn1 (by omega) hr (hy.co hn1 hn hr) (hy.co hn1 hn hr) (by show _<=nrm n h Y/\nrm n h Y<=_;omega),show BF n h Y Y=nrm n h Y from rfl]at c2;refine aI Tryz.func92 rfl (by kernel_rfl) ?_;rw[Tryz.ntmps92];refine aC fun _ K=>?_;simp only[kd,iC,aa,ae];apply K
 refine aF [⟨2,_,_,_,c1⟩] [] fun _ K=>?_;simp only[kd,slI,iC,GE,aa];apply K
 refine aF [⟨2,_,_,_,c2⟩] [] fun _ K=>?_;simp only[kd,slI,iC,GE,aa];apply K
 refine aC fun _ K=>?_;simp(disch:=omega) only[kd,aa,aO];apply K
 (refine aH ⟨.inr rfl,aG rfl ?_ rfl⟩;simp(disch:=omega) only[kd,Tryz.results92])
/-! Rows that change their places. -/
theorem I3 {d n p k:Nat} (g:FF) (hp:p<n) (hk:k<n) (hne:k≠p) (r:Nat):(mxI d n n (swp p k g))[r]?=
  (((⟨27,1,((fO d (ae n n)).set p [.sl d (k+1) 0 n]).set k [.sl d (p+1) 0 n]⟩::(mat n n g).map i9:List OObj))[sw (p+1) (k+1) r]?).map (y7 d (p+1) (k+1)):=by
 cases r with
 |zero=>
  rw[show sw (p+1) (k+1) 0=0 by simp[sw]];simp only[List.getElem?_cons_zero,Option.map_some,y7]
  congr 2
  apply List.ext_getElem?;intro i;rw[ax,List.getElem?_set,List.getElem?_set,List.length_set,cq,aw];by_cases hi:i<n
  ·rw[bK d n hi];by_cases h1:k=i
   ·subst h1;simp[hi,k9,pN,sw]
   by_cases h2:p=i
   ·subst h2;simp[h1,hi,k9,pN,sw]
   have h1': ¬i=k:=fun e=>h1 e.symm
   have h2': ¬i=p:=fun e=>h2 e.symm
   simp[h1,h2,h1',h2',k9,pN,sw]
  have h1: ¬k=i:=by omega
  have h2: ¬p=i:=by omega
  rw[if_neg h1,if_neg h2,List.getElem?_eq_none (by rw[cq,aw];omega)];rfl
 |succ r=>
  have hsw:sw (p+1) (k+1) (r+1)=sw p k r+1:=by
   unfold sw;by_cases h1:r=p
   ·simp[h1]
   by_cases h2:r=k
   ·simp[h1,h2,hne]
   simp[h1,h2]
  have hO: ∀l:List Int,y7 d (p+1) (k+1) (i9 l)=i9 l:=fun l=>by
   simp only[y7,i9,lc,List.map_map]
   congr 1
  rw[hsw,List.getElem?_cons_succ,List.getElem?_cons_succ,ax,ax];by_cases hr:r<n
  ·have hs:sw p k r<n:=by unfold sw;split<;>(try split)<;>omega
   rw[bs _ _ hr,bs _ _ hs];simp only[Option.map_some,hO]
   congr 3
   unfold swp sw;by_cases h1:r=p
   ·simp[h1]
   by_cases h2:r=k
   ·simp[h1,h2,hne]
   simp[h1,h2]
  have hs: ¬sw p k r<n:=by unfold sw;rw[if_neg (by omega),if_neg (by omega)];exact hr
  rw[List.getElem?_eq_none (by rw[aU];omega),List.getElem?_eq_none (by rw[aU];omega)];rfl
structure QT (n:Nat) where
 i:Nat
 h1:1<=i
 hi:i<=n
open Classical in
noncomputable def tW (M l:List (List Int)):CallRes:=if PH M l then⟨mxI 0 l.length l.length (vG M l),kP l.length true⟩else⟨mxI 0 0 0 (vG M l),kP 0 false⟩
theorem tX {M l:List (List Int)} (h: ¬PH M l):tW M l=⟨mxI 0 0 0 (vG M l),kP 0 false⟩:=if_neg h
theorem nI {M l:List (List Int)} (h:PH M l):tW M l=⟨mxI 0 l.length l.length (vG M l),kP l.length true⟩:=if_pos h
theorem uX {fn:Func} {c:Nat} {F:FF} {b:Bool} {s:AS} (hd:s.H 500=[]) (hk:s.tmps[4]?=some (.raw (.slice none 0 0)))
  (hres:uU Tryz.prog ⟨s.tmps.set 4 (.one (.sl 500 0 0 0)),bi s.H 500 [⟨27,1,[]⟩]⟩ fn.results.toList=some (.tup [(false,[.sl 500 0 0 0]),(false,[.p (.raw (.bool b))])])):
  ∃s',b8 s s'/\oA Tryz.prog fn ⟨mxI 0 0 c F,kP 0 b⟩ s':=
 ⟨_,fp (k:=4) (d:=500) 27 1 (by omega) hd hk,_,500,hres,qj (by simp[iv,ew]) (by decide),by simp only[bI];rfl,rfl⟩
theorem Es (M l:List (List Int)) (hl:l.length<=16):CallC Tryz.prog 48 [slI M,slI l] (tW M l):=by
 have hno:=tX (M:=M) (l:=l);have hyes:=nI (M:=M) (l:=l);generalize tW M l=r at*
 have cR:=lU M;cases hred:bF M with
 |false=>
  rw[hred]at cR;rw[hno (fun h=>by rw[h.1]at hred;cases hred)];refine aI Tryz.func48 rfl (by kernel_rfl) ?_;rw[Tryz.ntmps48];refine aC fun _ K=>?_;simp only[kd,slI,aa,ae];apply K
  refine aD (aF [⟨1,_,_,_,cR⟩] [] fun _ K=>?_);simp only[kd,slI,aa];apply K;refine aS rfl ?_;refine aC fun _ K=>?_;simp only[kd];apply K
  refine aH ⟨.inr rfl,uX rfl rfl ?_⟩;simp(disch:=omega) only[kd,Tryz.results48]
 |true=>
  rw[hred]at cR;obtain⟨n,hn⟩: ∃n,n=l.length:=⟨_,rfl⟩;rw[<- hn]at hyes hl;have hln:=hn.symm;refine aI Tryz.func48 rfl (by kernel_rfl) ?_;rw[Tryz.ntmps48];refine aC fun _ K=>?_;simp only[kd,slI,aa,ae];apply K
  refine aD (aF [⟨1,_,_,_,cR⟩] [] fun _ K=>?_);simp only[kd,slI,aa];apply K;refine aN rfl (aK ?_);show bf _ _ _ _;refine aD (aC fun _ K=>?_);simp only[kd,aa,hln];apply K;refine aT (G:=QM n (fun a=>FitB M.length (l.getD a [])=true)) (fun g=>⟨(slI M::slI l::j16 (jk::slI l::rN n::rN g.i::j16 (j16 (j16 (j16 (jk::jk::jk::[])))))),Hm []⟩) (fun g=>n-g.i) ⟨0,by omega,fun a h=>by omega⟩ ?_ ?_
  ·refine aE trivial ?_;simp[wk]
  rintro⟨i,hi,hg⟩;simp only;by_cases hm:i<n
  ·have hli:=x4 (l:=l) (i:=i) (by omega);have cF:=Mo M.length (l.getD i []);cases hf:FitB M.length (l.getD i [])with
   |true=>
    rw[hf]at cF;have hg': ∀a,a<i+1->FitB M.length (l.getD a [])=true:=fun a ha=>by
     by_cases h:a=i
     ·subst h;exact hf
     exact hg a (by omega)
    generalize l.getD i []=xi at*
    refine aC fun _ K=>?_;simp(disch:=omega) only[kd,slI];apply K
    refine bu rfl ?_;refine aD (aJ ?_);refine aC fun _ K=>?_;simp(disch:=omega) only[kd,aa,hli,fR];apply K
    refine aF [⟨3,_,_,_,cF⟩] [] fun _ K=>?_;simp only[kd,iC,aa];apply K
    refine aN rfl (aK ?_);show bf _ _ _ _;refine aL fun _ K=>?_;simp(disch:=omega) only[kd,aO];apply K
    refine⟨⟨i+1,by omega,hg'⟩,by simp only;omega,aE trivial ?_⟩;simp[wk]
   |false=>
    rw[hf]at cF;have hr:=hno (fun h=>by rw[(h.2 i (by omega) i (by omega)).x]at hf;cases hf);generalize l.getD i []=xi at*
    refine aC fun _ K=>?_;simp(disch:=omega) only[kd,slI];apply K
    refine bu rfl ?_;refine aD (aJ ?_);refine aC fun _ K=>?_;simp(disch:=omega) only[kd,aa,hli,fR];apply K
    refine aF [⟨3,_,_,_,cF⟩] [] fun _ K=>?_;simp only[kd,iC,aa];apply K
    refine aS rfl ?_;refine aC fun _ K=>?_;simp only[kd];apply K
    rw[hr];refine aH ⟨.inr rfl,uX rfl rfl ?_⟩;simp(disch:=omega) only[kd,Tryz.results48]
  have hin:i=n:=by omega
  subst hin;refine aC fun _ K=>?_;simp(disch:=omega) only[kd,slI];apply K
  refine bD rfl ?_;show bf _ _ _ _;have hfit: ∀a,a<i->FitB M.length (l.getD a [])=true:=hg;clear hg;obtain⟨n,hni⟩: ∃n,n=i:=⟨_,rfl⟩;subst hni;refine aC fun _ K=>?_;simp(disch:=omega) only[kd,aa,hln];apply K
  refine aD (aC fun _ K=>?_);simp only[kd,aa,hln];apply K;refine aT (G:=jP n) (fun g=>⟨(slI M::slI l::j4 (jk::jk::.one (.sl 33 0 0 n)::j16 (j4 (j4 (jk::jk::rN n::rN g.i::j16 (j16 (j16 (j4 ([]))))))))),Hm [(33,kI 33 n n g.i (fun _ _=>0))]⟩) (fun g=>n-g.i) ⟨0,by omega⟩ ?_ ?_
  ·refine aE ⟨?_,trivial⟩ ?_
   ·show[_]=_;simp[kI,fO,mat]
   simp[wk]
  rintro⟨i,hi⟩;simp only;by_cases hm:i<n
  ·have k1:=oV (i:=i) (n:=n) 33 n hm;have k2:=i4 (i:=i) (n:=n) 33 n hi;have k3:=aU i n (fun _ _=>(0:Int));have k4:=lL (i:=i) (n:=n) (c:=n) 33 (fun _ _=>(0:Int)) hm (fun j hj=>rfl);refine aC fun _ K=>?_;simp(disch:=omega) only[kd,slI];apply K
   refine bu rfl ?_;refine aD (aJ ?_);refine aC fun _ K=>?_;simp only[kd];apply K
   refine aL fun _ K=>?_;simp(disch:=omega) only[kd,aa,hln,ab,k1,ah,aw,List.all_replicate,k3,k4,af];apply K
   show bf _ _ _ _;refine aL fun _ K=>?_;simp(disch:=omega) only[kd,aO];apply K
   refine⟨⟨i+1,by omega⟩,by simp only;omega,aE ⟨?_,trivial⟩ ?_⟩
   ·first|exact k4|rfl
   simp[wk]
  have hin:i=n:=by omega
  subst hin;refine aC fun _ K=>?_;simp(disch:=omega) only[kd,slI];apply K
  refine bD rfl ?_;show bf _ _ _ _;rw[lK];obtain⟨n,hni⟩: ∃n,n=i:=⟨_,rfl⟩;subst hni;refine aD (aC fun _ K=>?_);simp only[kd,aa,hln];apply K;refine aT (G:=QM n (fun a=> ∀b,b<=a->PG M l a b)) (fun g=>⟨(slI M::slI l::j4 (jk::jk::.one (.sl 33 0 0 n)::j16 (j16 (j4 (jk::slI l::rN n::rN g.i::j16 (j16 (j4 (j4 ([]))))))))),Hm [(33,mxI 33 n n (B8 (vG M l) g.i 0))]⟩) (fun g=>n-g.i) ⟨0,by omega,fun a h=>by omega⟩ ?_ ?_
  ·refine aE ⟨?_,trivial⟩ ?_
   ·show _::_=_::_;rw[cj fun a b _ _=>(IC (vG M l) a b).symm]
   simp[wk]
  rintro⟨i,hi,hg⟩;simp only;by_cases hm:i<n
  ·have hli:=x4 (l:=l) (i:=i) (by omega);have cA:=Jy M (l.getD i []) hred (hfit i hm);refine aC fun _ K=>?_;simp(disch:=omega) only[kd,slI];apply K
   refine bu rfl ?_;refine aD (aJ ?_);refine aC fun _ K=>?_;simp(disch:=omega) only[kd,aa,hli,fR];apply K
   refine aF [⟨2,_,_,_,cA⟩] [] fun _ K=>?_;simp only[kd,slI,iC,aa];apply K
   refine aC fun _ K=>?_;simp(disch:=omega) only[kd,aa,aO];apply K
   refine aT (G:=QM (i+1) (fun b=>PG M l i b)) (fun g=>⟨(slI M::slI l::j4 (jk::jk::.one (.sl 33 0 0 n)::jk::rN i::jk::iC (dJ M (l.getD i []))::j16 (j16 (jk::slI l::rN n::rN i::j4 (j4 (.raw (.int .i64 ((i+1:Nat):Int))::rN g.i::j16 (j4 (j4 (j4 (jk::jk::[])))))))))),Hm [(33,mxI 33 n n (B8 (vG M l) i g.i))]⟩) (fun g=>i+1-g.i) ⟨0,by omega,fun a h=>by omega⟩ ?_ ?_
   ·refine aE ⟨rfl,trivial⟩ ?_;simp[wk]
   rintro⟨j,hj,hh⟩;simp only;by_cases hm2:j<i+1
   ·have hlj:=x4 (l:=l) (i:=j) (by omega);have cD:=O2 M (l.getD j []) (l.getD i []) hred (hfit j (by omega)) (hfit i hm);have hsy:=KU (i:=i) (j:=j) hred (hfit i hm) (hfit j (by omega));rw[show fh (l.getD j []) (dJ M (l.getD i [])) (l.getD j []).length=vG M l j i from rfl,<- hsy]at cD;by_cases hp:PG M l i j
    ·rw[show PN (vG M l i j)=GE (vG M l i j) true from if_pos ⟨hp.lo,hp.hi⟩]at cD;have g1:=bK (n:=n) (i:=i) 33 n hm;have g2:=bK (n:=n) (i:=j) 33 n (by omega);have g3:=bS (n:=n) n (B8 (vG M l) i j) (i:=i) hm;have g4:=aR (B8 (vG M l) i j i) (show j<n by omega);have g5:=bS (n:=n) n (upd (B8 (vG M l) i j) i j (vG M l i j)) (i:=j) (show j<n by omega);have g6:=aR (upd (B8 (vG M l) i j) i j (vG M l i j) j) hm;refine aC fun _ K=>?_;simp(disch:=omega) only[kd,slI,iC];apply K
     refine bu rfl ?_;refine aD (aJ ?_);refine aC fun _ K=>?_;simp only[kd];apply K
     refine aF [⟨5,_,_,_,cD⟩] [] fun _ K=>?_;simp(disch:=omega) only[kd,iC,GE,aa,hlj,fR];apply K
     refine aD (aC fun _ K=>?_);simp only[kd];apply K;refine aN rfl (aK ?_);show bf _ _ _ _;refine fH aW (by kernel_rfl) fun _ K=>?_;simp(disch:=omega) only[kd,aa,g1,g2,g3,g4,da,g5,g6];apply K
     show bf _ _ _ _;refine aL fun _ K=>?_;simp(disch:=omega) only[kd,aO];apply K
     refine⟨⟨j+1,by omega,fun a ha=>?_⟩,by simp only;omega,aE ⟨?_,trivial⟩ ?_⟩
     ·by_cases h:a=j
      ·subst h;exact hp
      exact hh a (by omega)
     ·show _::_=_::_;rw[cj fun a b _ _=>IB (f:=vG M l) rfl hsy.symm a b]
     simp[wk]
    have hw:PN (vG M l i j)=GE 0 false:=if_neg fun h=>hp ⟨hfit i hm,hfit j (by omega),h.1,h.2⟩
    rw[hw]at cD;have hr:=hno (fun h=>hp (h.2 i (by omega) j (by omega)));refine aC fun _ K=>?_;simp(disch:=omega) only[kd,slI,iC];apply K
    refine bu rfl ?_;refine aD (aJ ?_);refine aC fun _ K=>?_;simp only[kd];apply K
    refine aF [⟨5,_,_,_,cD⟩] [] fun _ K=>?_;simp(disch:=omega) only[kd,iC,GE,aa,hlj,fR];apply K
    refine aD (aC fun _ K=>?_);simp only[kd];apply K;refine aS rfl ?_;refine aC fun _ K=>?_;simp only[kd];apply K
    rw[hr];refine aH ⟨.inr rfl,uX rfl rfl ?_⟩;simp(disch:=omega) only[kd,Tryz.results48]
   have hjc:j=i+1:=by omega
   subst hjc;refine aC fun _ K=>?_;simp(disch:=omega) only[kd,slI,iC];apply K
   refine bD rfl ?_;show bf _ _ _ _;refine aL fun _ K=>?_;simp(disch:=omega) only[kd,aO];apply K
   refine⟨⟨i+1,by omega,fun a ha b hb=>?_⟩,by simp only;omega,aE ⟨?_,trivial⟩ ?_⟩
   ·by_cases h:a=i
    ·subst h;exact hh b (by omega)
    exact hg a (by omega) b hb
   ·show _::_=_::_;rw[cj fun a b _ _=>LU (vG M l) i a b]
   simp[wk]
  have hin:i=n:=by omega
  subst hin;have hr:=hyes ⟨hred,fun a ha b hb=>by
   by_cases h:b<=a
   ·exact hg a (by omega) b h
   have h1:=hg b (by omega) a (by omega);have hs:=KU (i:=a) (j:=b) hred (hfit a (by omega)) (hfit b (by omega));exact⟨h1.y,h1.x,by rw[hs];exact h1.lo,by rw[hs];exact h1.hi⟩⟩
  refine aC fun _ K=>?_;simp(disch:=omega) only[kd,slI];apply K
  refine bD rfl ?_;show bf _ _ _ _;have e:mxI 33 i i (B8 (vG M l) i 0)=mxI 33 i i (vG M l):=by
   show _::_=_::_;rw[cj fun a b ha hb=>LT ha hb]
  rw[e];rw[hr];refine aC fun _ K=>?_;simp only[kd,aa];apply K
  refine aH ⟨.inr rfl,CJ (d:=33) rfl ?_ (by decide)⟩;simp(disch:=omega) only[kd,Tryz.results48]
theorem Ey (k c:Nat) (F:FF) (b:Bool):jl ⟨mxI 0 k c F,kP k b⟩:=by
 refine⟨rfl,fun o ho e he x hx=>?_⟩;rcases List.mem_cons.1 ho with rfl|ho
 ·simp only[fO,List.mem_mapIdx]at he;obtain⟨i,_,rfl⟩:=he;simp at hx;subst hx;rfl
 obtain⟨r,_,rfl⟩:=List.mem_map.1 ho;simp only[i9,lc,List.mem_map]at he;obtain⟨z,_,rfl⟩:=he;simp[fI]at hx;subst hx;rfl
theorem Ib {ops:Array Oper} {m d k c:Nat} {F:FF} {b:Bool} {s:AS} (hd:cwD ops m=some d):GV ops m ⟨mxI 0 k c F,kP k b⟩ s=AS.put ⟨s.tmps,bi s.H d (mxI d k c F)⟩ (some d) (.tup [(false,[.sl d 0 0 k]),(false,[.p (.raw (.bool b))])]):=by
 unfold GV;rw[hd];simp only[bZ];rfl
/-! The Gram matrix of short rows. -/
theorem Da {n:Nat} {h S:FF} (hn1:1<=n) (hn:n<=4) (hr:RedR h n) (hS: ∀a,a<n->Bo n h (S a)) {a b:Nat} (ha:a<n) (hb:b<n):
  vG (mat n n h) (mat n n S) a b=gmB n h S a b:=by
 unfold vG;rw[jF S ha,jF S hb];exact D3 hn1 (by omega) hr ((hS a ha).co hn1 hn hr) ((hS b hb).co hn1 hn hr)
theorem LW {n:Nat} {h S:FF} (hn1:1<=n) (hn:n<=4) (hr:RedR h n) (hS:InB2 n h 262144 S):PH (mat n n h) (mat n n S):=by
 refine⟨qa hn1 (by omega) hr,fun i hi j hj=>?_⟩;rw[aU]at hi hj;have g:=mM hr.pd hS hi hj 262144 (by decide);refine⟨?_,?_,?_,?_⟩
 ·rw[aU,jF S hi];exact jD ((show Bo n h (S i)from hS.nr i hi).co hn1 hn hr)
 ·rw[aU,jF S hj];exact jD ((show Bo n h (S j)from hS.nr j hj).co hn1 hn hr)
 ·rw[Da hn1 hn hr hS.nr hi hj];omega
 rw[Da hn1 hn hr hS.nr hi hj];omega
theorem IF {n:Nat} {h S:FF} (hn1:1<=n) (hn:n<=4) (hr:RedR h n) (hS:InB2 n h 262144 S):
  CallC Tryz.prog 48 [slI (mat n n h),slI (mat n n S)] ⟨mxI 0 n n (gmB n h S),kP n true⟩:=by
 have c:=Es (mat n n h) (mat n n S) (by rw[aU];omega);rw[nI (LW hn1 hn hr hS),aU]at c;have e:mxI 0 n n (vG (mat n n h) (mat n n S))=mxI 0 n n (gmB n h S):=by
  show _::_=_::_;rw[cj fun a b ha hb=>Da hn1 hn hr hS.nr ha hb]
 rwa[e]at c
/-! The sum of rows. -/
theorem sA (n j:Nat) (g:Nat->Int) (v:Int):(lc fI (bz n g)).set j [.p (.raw (.int .i64 v))]=lc fI (bz n (fun b=>if b=j then v else g b)):=by
 rw[<- qh,<- yc];rfl
section
variable {n:Nat}
def K4 (n:Nat) (a:FF) (i:Nat):Nat->Nat->Option Nat
 |0,_=>none
 |m+1,c=>if nrm n a (cnd i c)<a i i then some c else K4 n a i m (c+1)
def lJ (n:Nat) (a:FF) (i:Nat):Option Nat:=K4 n a i (3^i) 0
theorem tQ {a:FF} {i:Nat}: ∀m c r,K4 n a i m c=some r->c<=r/\r<c+m/\nrm n a (cnd i r)<a i i
 |0,_,_,h=>by cases h
 |m+1,c,r,h=>by
  rw[K4]at h;split at h
  ·rename_i hl;injection h with h
   subst h;exact⟨Nat.le_refl _,by omega,hl⟩
  obtain⟨h1,h2,h3⟩:=tQ m (c+1) r h;exact⟨by omega,by omega,h3⟩
theorem zX {a:FF} {i:Nat}: ∀m c,K4 n a i m c=none-> ∀r,c<=r->r<c+m-> ¬nrm n a (cnd i r)<a i i
 |0,_,_=>fun r h1 h2=>by omega
 |m+1,c,h=>by
  rw[K4]at h;split at h
  ·cases h
  rename_i hl;intro r h1 h2;by_cases e:r=c
  ·subst e;exact hl
  exact zX m (c+1) h r (by omega) (by omega)
theorem mK {a:FF} {i:Nat} (h:lJ n a i=none): ¬VioP n a i:=fun⟨c,h1,h2⟩=>zX _ _ h c (by omega) (by omega) h2
inductive sY where
 |swp (i:Nat)
 |rep (i c:Nat)
 |neg (i:Nat)
def scanR (n:Nat) (a:FF):Nat->Nat->Option sY
 |0,_=>none
 |m+1,i=>if 0<i/\a i i<a (i-1) (i-1)then some (.swp i)else match lJ n a i with
  |some c=>some (.rep i c)
  |none=>if 0<i/\a (i-1) i<0 then some (.neg i)else scanR n a m (i+1)
def opC (n:Nat) (t:FF):sY->Nat->Nat->Int
 | .swp i=>fun r c=>if c=i then t r (i-1)else if c=i-1 then t r i else t r c
 | .rep i c=>dz t i (mV n t (cnd i c))
 | .neg i=>dz t i (fun r=> - t r i)
def opU:sY->Nat->Nat->Int
 | .swp i=>fun r c=>if c=i then idF r (i-1)else if c=i-1 then idF r i else idF r c
 | .rep i c=>dz idF i (cnd i c)
 | .neg i=>dz idF i (fun r=> - idF r i)
def sY.i:sY->Nat
 | .swp i=>i
 | .rep i _=>i
 | .neg i=>i
theorem rq (F:Nat->Int) {k:Nat} (hk:k<n):cK (fun p=>F p*idF p k) n=F k:=by
 rw[iD hk (fun p _ hne=>by unfold idF;rw[if_neg hne,Int.mul_zero])];unfold idF;rw[if_pos rfl,Int.mul_one]
theorem Cq {t:FF} {op:sY} (hi:op.i<n) {r c:Nat} (hc:c<n):gm n t (opU op) r c=opC n t op r c:=by
 rw[gU];cases op with
 |swp i=>
  have hi:i<n:=hi;simp only[opU,opC];by_cases e1:c=i
  ·simp only[if_pos e1];exact rq (t r) (by omega)
  by_cases e2:c=i-1
  ·simp only[if_neg e1,if_pos e2];exact rq (t r) (by omega)
  simp only[if_neg e1,if_neg e2];exact rq (t r) hc
 |rep i k=>
  simp only[opU,opC,dz];by_cases e1:c=i
  ·simp only[if_pos e1];unfold mV;exact aY n fun p _=>Int.mul_comm _ _
  simp only[if_neg e1];exact rq (t r) hc
 |neg i=>
  have hi:i<n:=hi;simp only[opU,opC,dz];by_cases e1:c=i
  ·simp only[if_pos e1];have:=rq (n:=n) (fun p=> - t r p) hi;rw[<- this];exact aY n fun p _=>by grind
  simp only[if_neg e1];exact rq (t r) hc
theorem LC {h t u:FF} {a b:Nat}:cngF n (cngF n h t) u a b=cngF n h (gm n t u) a b:=by
 rw[dK,dK,<- xt];refine ea (fun _ _ _ _=>rfl) (fun i _=>?_) (fun i _=>?_)<;>
 ·unfold mV;rw[gU];exact aY n fun p _=>Int.mul_comm _ _
theorem OA {h t:FF} {op:sY} (hi:op.i<n) {a b:Nat} (ha:a<n) (hb:b<n):cngF n (cngF n h t) (opU op) a b=cngF n h (opC n t op) a b:=by
 rw[LC,dK,dK];exact ea (fun _ _ _ _=>rfl) (fun i _=>Cq hi ha) (fun i _=>Cq hi hb)
/-! What the operations do to the Gram matrix. -/
theorem ql {F G:Nat->Int} {i:Nat}: ∀{m},i<m->(∀a,a<m->a≠i->F a=G a)->cK G m=cK F m+(G i-F i)
 |m+1,hi,h=>by
  rw[cK,cK];by_cases e:i=m
  ·subst e;rw[aY i (F:=G) (G:=F) fun p hp=>(h p (by omega) (by omega)).symm];omega
  rw[ql (m:=m) (by omega) (fun a ha hne=>h a (by omega) hne),h m (by omega) (Ne.symm e)];omega
theorem Dc (h:FF) (x y:Nat->Int):BF n h x (fun r=> - y r)= - BF n h x y:=by
 have h1:=iw (n:=n) h x y y (-2);have e:(fun i=>y i+ -2*y i)=fun r=> - y r:=by funext i;omega
 rw[e]at h1;rw[h1];omega
theorem xu (h:FF) (x y:Nat->Int):BF n h (fun r=> - x r) y= - BF n h x y:=by
 have h1:=jR (n:=n) h x x y (-2);have e:(fun i=>x i+ -2*x i)=fun r=> - x r:=by funext i;omega
 rw[e]at h1;rw[h1];omega
def DN (n:Nat) (A:FF):Int:=cK (fun i=>((n-i:Nat):Int)*A i i) n
def Qm (n:Nat) (A:FF):Int:=cK (fun i=>if 0<i/\A (i-1) i<0 then((2^(n-i):Nat):Int)else 0) n
theorem Ct (A:FF):0<=Qm n A/\Qm n A<=(n:Int)*((2^n:Nat):Int):=by
 refine⟨pk n fun i _=>?_,?_⟩
 ·show(0:Int)<=if 0<i/\A (i-1) i<0 then((2^(n-i):Nat):Int)else 0
  generalize 2^(n-i)=q;split<;>omega
 refine(vp (B:=((2^n:Nat):Int)) n fun i _=>?_).2;have h:2^(n-i)<=2^n:=Nat.pow_le_pow_right (by omega) (by omega);show -((2^n:Nat):Int)<=(if 0<i/\A (i-1) i<0 then((2^(n-i):Nat):Int)else 0)/\(if 0<i/\A (i-1) i<0 then((2^(n-i):Nat):Int)else 0)<=((2^n:Nat):Int);generalize 2^(n-i)=q at*
 generalize 2^n=p at*
 split<;>omega
def FP (n:Nat) (A:FF):Int:=DN n A*((n:Int)*((2^n:Nat):Int)+1)+Qm n A
theorem NR {A A':FF} (h:DN n A'<DN n A):FP n A'<FP n A:=by
 have h1:=Ct (n:=n) A;have h2:=Ct (n:=n) A';unfold FP;generalize(n:Int)*((2^n:Nat):Int)=q at*
 have h3:(DN n A'+1)*(q+1)<=DN n A*(q+1):=Int.mul_le_mul_of_nonneg_right (by omega) (by omega);rw[Int.add_mul,Int.one_mul]at h3;omega
theorem LK {h t:FF} {i:Nat} (h0:0<i) (hi:i<n) (hl:cngF n h t i i<cngF n h t (i-1) (i-1)):DN n (cngF n h (opC n t (.swp i)))<DN n (cngF n h t):=by
 obtain⟨j,rfl⟩: ∃j,i=j+1:=⟨i-1,by omega⟩;rw[Nat.add_sub_cancel]at hl;have e: ∀a,cngF n h (opC n t (.swp (j+1))) a a=if a=j then cngF n h t (j+1) (j+1)else if a=j+1 then cngF n h t j j else cngF n h t a a:=fun a=>by
  have e2: ∀c,(fun r=>opC n t (.swp (j+1)) r c)=if c=j then fun r=>t r (j+1)else if c=j+1 then fun r=>t r j else fun r=>t r c:=fun c=>by
   by_cases e1:c=j+1
   ·subst e1;simp[opC]
   by_cases e3:c=j
   ·subst e3;simp[opC]
   simp[opC,e1,e3]
  rw[dK,e2];split
  ·rw[dK]
  split
  ·rw[dK]
  rw[dK]
 unfold DN;rw[EE (fun a=>((n-a:Nat):Int)*cngF n h t a a) hi];obtain⟨q,hq⟩: ∃q,q=cngF n h t (j+1) (j+1):=⟨_,rfl⟩;obtain⟨p,hp⟩: ∃p,p=cngF n h t j j:=⟨_,rfl⟩;rw[<- hq,<- hp]at hl
 -- compare at the places j and j + 1
 have key: ∀m,j+1<m->m<=n->cK (fun a=>((n-a:Nat):Int)*cngF n h (opC n t (.swp (j+1))) a a) m+(p-q)=cK (fun a=>if a=j then((n-(j+1):Nat):Int)*q else if a=j+1 then((n-j:Nat):Int)*p else((n-a:Nat):Int)*cngF n h t a a) m:=fun m hm hmn=>by
  obtain⟨d,rfl⟩: ∃d,m=j+2+d:=⟨m-(j+2),by omega⟩
  induction d with
  |zero=>
   rw[show j+2+0=j+1+1 by omega,cK,cK,cK,cK,aY j (F:=fun a=>((n-a:Nat):Int)*cngF n h (opC n t (.swp (j+1))) a a) (G:=fun a=>if a=j then((n-(j+1):Nat):Int)*q else if a=j+1 then((n-j:Nat):Int)*p else((n-a:Nat):Int)*cngF n h t a a) (fun a ha=>by rw[e,if_neg (by omega),if_neg (by omega),if_neg (by omega),if_neg (by omega)])];rw[e,e,if_pos rfl,if_pos rfl,if_neg (by omega),if_pos rfl,if_neg (by omega),if_pos rfl,<- hq,<- hp];have e3:((n-j:Nat):Int)=((n-(j+1):Nat):Int)+1:=by omega
   rw[e3,Int.add_mul,Int.add_mul];omega
  |succ d ih=>
   have:=ih (by omega) (by omega);rw[<- Nat.add_assoc,cK,cK,e,if_neg (by omega),if_neg (by omega),if_neg (by omega),if_neg (by omega)];omega
 have:=key n hi (Nat.le_refl n);rw[<- hq,<- hp];omega
end
abbrev Rb (G T:List (List Int)) (e:Int):TV:= .tup [(false,[.p (.sl (ls (fR fI) G))]),(false,[.p (.sl (ls (fR fI) T))]),(false,[.p (.raw (.int .i64 e))])]
def rV (g R:FF) (m:Nat):Nat->Nat->Int:=fun a b=>if a<m then pp g a*R a b else R a b
def GZ (g R:FF) (m j:Nat):Nat->Nat->Int:=fun a b=>if a=m/\b<j then 0-R m b else rV g R m a b
theorem CT {g R:FF} {m a:Nat} (h:a<m):rV g R m a=Ez g R a:=by
 funext b;unfold rV;rw[if_pos h];rfl
theorem Ka {g R:FF} {m a:Nat} (h: ¬a<m):rV g R m a=R a:=by
 funext b;unfold rV;rw[if_neg h]
theorem J9 (g R:FF) (m:Nat):GZ g R m 0=rV g R m:=by
 funext a b;unfold GZ;rw[if_neg (by omega)]
theorem Pc (g R:FF) (m j:Nat):GZ g R m j m j=R m j:=by
 unfold GZ rV;rw[if_neg (by omega),if_neg (by omega)]
theorem J8 (g R:FF) (m j a b:Nat):upd (GZ g R m j) m j (0-R m j) a b=GZ g R m (j+1) a b:=by
 unfold upd GZ;by_cases h1:a=m
 ·subst h1;by_cases h2:b=j
  ·subst h2;simp
  by_cases h3:b<j
  ·simp[h2,h3,show b<j+1 by omega]
  simp[h2,h3,show ¬b<j+1 by omega]
 simp[h1]
theorem MW {g R:FF} {m n:Nat} (hs:pp g m= -1) (a b:Nat) (hb:b<n):GZ g R m n a b=rV g R (m+1) a b:=by
 unfold GZ rV;by_cases h1:a=m
 ·subst h1;rw[if_pos ⟨rfl,hb⟩,if_pos (by omega),hs];omega
 have:a<m+1↔a<m:=by omega
 simp[h1,this]
theorem Kb {g R:FF} {m:Nat} (hs:pp g m=1) (a b:Nat):rV g R m a b=rV g R (m+1) a b:=by
 unfold rV;by_cases h1:a=m
 ·subst h1;rw[if_neg (by omega),if_pos (by omega),hs];omega
 have:a<m+1↔a<m:=by omega
 simp[this]
theorem MY (g R:FF) (a b:Nat):R a b=rV g R 1 a b:=by
 unfold rV;split
 ·rename_i h;have:a=0:=by omega
  subst this;rw[pp];omega
 rfl
theorem MX {g R:FF} {n a:Nat} (ha:a<n) (b:Nat):rV g R n a b=Ez g R a b:=by rw[CT ha]
theorem N4 {n:Nat} {h:FF} {s:Int} (hs:s=1\/s= -1) (x y:Nat->Int):BF n h (fun j=>s*x j) y=s*BF n h x y:=by
 rcases hs with rfl|rfl
 ·rw[ea (fun _ _ _ _=>rfl) (fun i _=>Int.one_mul (x i)) (fun _ _=>rfl)];omega
 rw[ea (x':=fun r=> - x r) (fun _ _ _ _=>rfl) (fun i _=>by omega) (fun _ _=>rfl),xu];omega
theorem Pd {n:Nat} {h g R:FF} (k:Nat):BF n h (rV g R (k+1) k) (rV g R (k+1) (k+1))=pp g k*gmB n h R k (k+1):=by
 rw[CT (by omega),Ka (by omega)];exact N4 (sM g k) _ _
structure QS (n:Nat) where
 k:Nat
 hk:k+1<=n
theorem Cm (n:Nat) (h R:FF) (hn1:1<=n) (hn:n<=4) (hr:RedR h n) (inb:InB2 n h 262144 R)
  (cS:CallG Tryz.prog 0 138 46 [slI (mat n n h)] je ⟨mxI 0 n n R,.one (.sl 0 0 0 n)⟩):
  CallG Tryz.prog 0 138 18 [slI (mat n n h)] je ⟨[],Rb (mat n n (gmB n h (Ez (gmB n h R) R))) (mat n n (trF (Ez (gmB n h R) R))) 0⟩:=by
 have hml:=aU n n h;have c1:=lU (mat n n h);rw[qa hn1 (by omega) hr]at c1;have inq:=inb.sg (gmB n h R);have cG:=IF hn1 hn hr inq;obtain⟨g,hg⟩: ∃g,g=gmB n h R:=⟨_,rfl⟩;rw[<- hg]at inq cG⊢;have gd: ∀m a,a<n->Bo n h (rV g R m a):=fun m a ha=>by
  by_cases hm:a<m
  ·rw[CT hm];exact inq.nr a ha
  rw[Ka hm];exact inb.nr a ha
 refine dq Tryz.func18 rfl (by kernel_rfl) ?_;rw[Tryz.ntmps18];refine aM fun _ K=>?_;simp only[kd,aa,slI,ae];apply K
 refine bx (bV ?_);refine cw [⟨1,_,_,_,c1⟩] [] fun _ K=>?_;simp only[kd,slI,aa];apply K
 refine cJ rfl ?_;refine aM fun _ K=>?_;simp(disch:=omega) only[kd,aa,hml];apply K
 refine cJ rfl (eB ?_);show de _ _ _ _ _ _ _;refine cy [⟨1,_,_,_,cS,rfl⟩] [] [] fun _ K=>?_;simp(disch:=omega) only[kd,slI,dI.a,aa];apply K
 refine de.weak (aE (tm:=(slI (mat n n h)::j4 (.one (.sl 25 0 0 n)::j16 (j16 (j16 (j16 (j16 (j16 (j4 (jk::jk::[])))))))))) (l:=[(25,mxI 25 n n R)]) ⟨bZ 0 25 _ _ _,trivial⟩ (by simp[wk])) ?_;refine bx (aM fun _ K=>?_);simp only[kd,slI];apply K;refine fq (G:=QS n) (fun q=>⟨(slI (mat n n h)::j4 (.one (.sl 25 0 0 n)::.raw (.int .i64 ((q.k+1:Nat):Int))::j16 (j16 (j16 (j16 (j16 (j16 (j4 (jk::[]))))))))),Hm [(25,mxI 25 n n (rV g R (q.k+1)))]⟩) (fun _=>je) (fun q=>n-q.k) ⟨0,by omega⟩ ?_ rfl ?_
 ·refine aE ⟨?_,trivial⟩ ?_
  ·show _::_=_::_;rw[cj fun a b _ _=>MY g R a b]
  simp[wk]
 rintro⟨k,hk⟩;simp only;by_cases hm:k+1<n
 ·have e0:IntKind.i64.wrap (((k+1:Nat):Int)-1)=(k:Int):=by rw[show((k+1:Nat):Int)-1=(k:Int) by omega];exact aO (by omega) (by omega)
  have e1:IntKind.i64.wrap (((k+1:Nat):Int)+1)=((k+1+1:Nat):Int):=by rw[show((k+1:Nat):Int)+1=((k+1+1:Nat):Int) by omega];exact aO (by omega) (by omega)
  have hv:BF n h (rV g R (k+1) k) (rV g R (k+1) (k+1))=pp g k*g k (k+1):=by rw[Pd,hg]
  have hgb:=mM hr.pd inb (show k<n by omega) hm 262144 (by decide);rw[<- hg]at hgb;have hsb:=sM g k;have hsv: -262144<=pp g k*g k (k+1)/\pp g k*g k (k+1)<=262144:=by
   rcases hsb with e|e<;>rw[e]<;>omega
  have cI:=Jz (mat n n h) (bz n (rV g R (k+1) k)) (bz n (rV g R (k+1) (k+1)));rw[ue hn1 (by omega) hr ((gd _ _ (by omega)).co hn1 hn hr) ((gd _ _ hm).co hn1 hn hr) (by rw[hv];omega),hv]at cI;have g1:=bK (n:=n) (i:=k) 25 n (by omega);have g2:=bK (n:=n) (i:=k+1) 25 n hm;have r1:=bS (n:=n) n (rV g R (k+1)) (i:=k) (by omega);have r2:=bS (n:=n) n (rV g R (k+1)) (i:=k+1) hm;have sgk:pp g (k+1)=if pp g k*g k (k+1)<0 then -1 else 1:=rfl
  refine bx (aM fun _ K=>?_);simp(disch:=omega) only[kd,aa,slI];apply K;refine dU rfl (eB ?_);refine bx (bV ?_);refine nB aW [⟨10,_,_,_,cI⟩] [] (by kernel_rfl) fun _ K=>?_;simp(disch:=omega) only[kd,slI,iC,GE,aa,e0,g1,g2,r1,ol,r2];apply K
  generalize hvv:pp g k*g k (k+1)=v at*
  by_cases hneg:v<0
  ·rw[if_pos hneg]at sgk;refine aM fun _ K=>?_;simp(disch:=omega) only[kd];apply K
   refine dU rfl ?_;refine aM fun _ K=>?_;simp(disch:=omega) only[kd,aa,g2];apply K
   refine fq (G:=jP n) (fun q=>⟨(slI (mat n n h)::j4 (.one (.sl 25 0 0 n)::.raw (.int .i64 ((k+1:Nat):Int))::j16 (j16 (j4 (j4 (j4 (jk::rN n::rN q.i::j16 (j16 (j16 (j4 (jk::jk::[]))))))))))),Hm [(25,mxI 25 n n (GZ g R (k+1) q.i))]⟩) (fun _=>je) (fun q=>n-q.i) ⟨0,by omega⟩ ?_ rfl ?_
   ·refine aE ⟨?_,trivial⟩ ?_
    ·show _::_=_::_;rw[J9]
    simp[wk]
   rintro⟨j,hj⟩;simp only;by_cases hjn:j<n
   ·have r3:=bS (n:=n) n (GZ g R (k+1) j) (i:=k+1) hm;have r4:(bz n (GZ g R (k+1) j (k+1)))[j]?=some (R (k+1) j):=by rw[aR _ hjn,Pc]
    have b1:=(show Bo n h (R (k+1))from inb.nr (k+1) hm).co hn1 hn hr j hjn;have e2:IntKind.i64.wrap (0-R (k+1) j)=0-R (k+1) j:=aO (by omega) (by omega);refine aM fun _ K=>?_;simp(disch:=omega) only[kd,slI];apply K
    refine iX rfl ?_;refine bx (bV ?_);refine aM fun _ K=>?_;simp only[kd];apply K
    refine gA aW (by kernel_rfl) fun _ K=>?_;simp(disch:=omega) only[kd,aa,g2,r3,r4,e2,da];apply K
    show de _ _ _ _ _ _ _;refine cd fun _ K=>?_;simp(disch:=omega) only[kd,aO];apply K
    refine⟨⟨j+1,by omega⟩,by simp only;omega,aE ⟨?_,trivial⟩ ?_,rfl⟩
    ·show _::_=_::_;rw[cj fun a b _ _=>J8 g R (k+1) j a b]
    simp[wk]
   have hjn:j=n:=by omega
   refine aM fun _ K=>?_;simp(disch:=omega) only[kd,slI];apply K
   refine lw rfl ?_;show de _ _ _ _ _ _ _;refine cd fun _ K=>?_;simp only[kd,aa,e1];apply K
   refine⟨⟨k+1,by omega⟩,by simp only;omega,aE ⟨?_,trivial⟩ ?_,rfl⟩
   ·show _::_=_::_;rw[cj fun a b _ hb=>MW (n:=j) sgk a b (by omega)]
   simp[wk]
  rw[if_neg hneg]at sgk;refine aM fun _ K=>?_;simp(disch:=omega) only[kd];apply K
  refine cJ rfl (eB ?_);show de _ _ _ _ _ _ _;refine cd fun _ K=>?_;simp only[kd,aa,e1];apply K
  refine⟨⟨k+1,by omega⟩,by simp only;omega,aE ⟨?_,trivial⟩ ?_,rfl⟩
  ·show _::_=_::_;rw[cj fun a b _ _=>Kb sgk a b]
  simp[wk]
 have hkn:k+1=n:=by omega
 refine bx (aM fun _ K=>?_);simp(disch:=omega) only[kd,aa,slI];apply K;refine cJ rfl (ta ?_);show de _ _ _ _ _ _ _;have e:mxI 25 n n (rV g R (k+1))=mxI 25 n n (Ez g R):=by
  show _::_=_::_;rw[hkn,cj fun a b ha _=>MX ha b]
 rw[e];generalize Ez g R=Q at*
 clear gd inq inb e hm hk hkn
 -- the Gram matrix
 refine bx (oK (oJ 2 cG (Ey _ _ _ _) [] [] (by simp[wk]) (by decide) fun K hK=>?_));simp only[kd];apply hK;clear hK K;refine⟨⟨⟨_,rfl,.inl ⟨rfl,rfl⟩,.inr ⟨25,0,0,n,rfl,bU (d:=25) (n:=n) (c:=n) (f:=Q) rfl,gD (d:=25) (n:=n) (c:=n) (f:=Q) rfl⟩,trivial⟩,⟨74,rfl,fun _=>rfl⟩⟩,by simp,?_⟩;intro K hK;rw[Ib (d:=74) rfl];simp only[kd,aa];apply hK;clear hK K;show de _ _ _ _ _ _ _;refine de.weak (aE (tm:=(slI (mat n n h)::j4 (.one (.sl 25 0 0 n)::j4 (.one (.sl 74 0 0 n)::j16 (j16 (j16 (j16 (j16 (j16 (jk::[])))))))))) (l:=[(25,mxI 25 n n Q),(74,mxI 74 n n (gmB n h Q))]) ⟨rfl,rfl,trivial⟩ (by simp[wk])) ?_;refine de.weak ((bC 74 (bU (d:=74) (n:=n) (c:=n) (f:=gmB n h Q) rfl)).trans (aE (tm:=(slI (mat n n h)::j4 (.one (.sl 25 0 0 n)::j4 (slI (mat n n (gmB n h Q))::j16 (j16 (j16 (j16 (j16 (j16 (jk::[])))))))))) (l:=[(25,mxI 25 n n Q)]) ⟨rfl,trivial⟩ (by
  simp[wk]
  (repeat' apply And.intro)<;>first|rfl|exact(gD (H:=Hm [(25,mxI 25 n n Q),(74,mxI 74 n n (gmB n h Q))]) (d:=74) (n:=n) (c:=n) (f:=gmB n h Q) rfl).symm))) ?_
 generalize mat n n (gmB n h Q)=GM at*
 refine aM fun _ K=>?_;simp(disch:=omega) only[kd,aa,slI,hml,ab];apply K
 refine bx (aM fun _ K=>?_);simp only[kd,aa];apply K;refine fq (G:=jP n) (fun q=>⟨(j4 (jk::.one (.sl 25 0 0 n)::j4 (slI GM::jk::.one (.sl 79 0 0 n)::j16 (j16 (j16 (j16 (j4 (.raw (.int .i64 (n:Int))::rN q.i::j16 (j4 (j4 (jk::[]))))))))))),Hm [(25,mxI 25 n n Q),(79,kI 79 n n q.i (trF Q))]⟩) (fun _=>je) (fun q=>n-q.i) ⟨0,by omega⟩ ?_ rfl ?_
 ·refine aE ⟨rfl,?_,trivial⟩ ?_
  ·show[_]=_;simp[kI,fO,mat]
  simp[wk]
 rintro⟨i,hi⟩;simp only;by_cases hm:i<n
 ·have hmi:=aU i n (trF Q);have hsl:(fO 79 (ae i n)).length=i:=by rw[cq,aw]
  have hrl:((mat i n (trF Q)).map i9).length=i:=by rw[List.length_map,hmi]
  refine aM fun _ K=>?_;simp(disch:=omega) only[kd,slI];apply K
  refine iX rfl ?_;refine bx (bV ?_);refine aM fun _ K=>?_;simp only[kd];apply K
  refine aM fun _ K=>?_;simp only[kd,aa];apply K
  refine fq (G:=jP n) (fun q=>⟨(j4 (jk::.one (.sl 25 0 0 n)::j4 (slI GM::jk::.one (.sl 79 0 0 n)::rN i::j16 (j16 (j16 (j16 (jk::jk::jk::rN n::rN i::jk::jk::.one (.sl 25 0 0 n)::rN n::rN q.i::j16 (j4 ([]))))))))),Hm [(25,mxI 25 n n Q),(79,OM 79 n n (trF Q) i q.i)]⟩) (fun _=>je) (fun q=>n-q.i) ⟨0,by omega⟩ ?_ rfl ?_
  ·refine aE ⟨rfl,rfl,trivial⟩ ?_;simp[wk]
  rintro⟨j,hj⟩;simp only;by_cases hm2:j<n
  ·have g1:=bK (n:=n) (i:=j) 25 n hm2;have hr1:=bS n Q (i:=j) hm2;have hjr:=aR (Q j) hm;cases j with
   |zero=>
    rw[OM,D2 (trF Q) hm];refine aM fun _ K=>?_;simp(disch:=omega) only[kd,slI];apply K
    refine iX rfl ?_;refine bx (bV ?_);refine aM fun _ K=>?_;simp(disch:=omega) only[kd,aa,ab,g1];apply K
    refine gA aW (by kernel_rfl) fun _ K=>?_;simp(disch:=omega) only[kd,aa,ab,jh hsl,hr1,hjr,Nat.reduceMul,ah,ji hsl,hmi,af];apply K
    show de _ _ _ _ _ _ _;refine cd fun _ K=>?_;simp(disch:=omega) only[kd,aO];apply K
    refine⟨⟨1,by omega⟩,by simp only;omega,aE ⟨rfl,?_,trivial⟩ ?_,rfl⟩
    ·rfl
    simp[wk]
   |succ j=>
    have h01:(0==i+1)=false:=by simp
    rw[OM,LV];refine aM fun _ K=>?_;simp(disch:=omega) only[kd,slI];apply K
    refine iX rfl ?_;refine bx (bV ?_);refine aM fun _ K=>?_;simp(disch:=omega) only[kd,aa,ab,g1];apply K
    refine gA aW (by kernel_rfl) fun _ K=>?_;simp(disch:=omega) only[kd,aa,i9,ab,jh hsl,hr1,hjr,Nat.reduceMul,ah,jh hrl,bv,List.map_append,vr,List.map_replicate,AL,Ae,ji hrl,af,h01,ji hsl,reduceCtorEq,List.length_append,hrl];apply K
    show de _ _ _ _ _ _ _;refine cd fun _ K=>?_;simp(disch:=omega) only[kd,aO];apply K
    refine⟨⟨j+1+1,by omega⟩,by simp only;omega,aE ⟨rfl,?_,trivial⟩ ?_,rfl⟩
    ·show _=LV 79 n n (trF Q) i (j+1);rw[LV,i9,oh (j+1)];rfl
    simp[wk]
  have hjc:j=n:=by omega
  subst hjc;refine aM fun _ K=>?_;simp(disch:=omega) only[kd,slI];apply K
  refine lw rfl ?_;show de _ _ _ _ _ _ _;rw[IE _ (by omega) hm];refine cd fun _ K=>?_;simp(disch:=omega) only[kd,aO];apply K
  refine⟨⟨i+1,by omega⟩,by simp only;omega,aE ⟨rfl,rfl,trivial⟩ ?_,rfl⟩;simp[wk]
 have hin:i=n:=by omega
 subst hin;refine aM fun _ K=>?_;simp(disch:=omega) only[kd,slI];apply K
 refine lw rfl ?_;show de _ _ _ _ _ _ _;rw[lK];refine de.weak ((bC 79 (bU (d:=79) (n:=i) (c:=i) (f:=trF Q) rfl)).trans (aE (tm:=(j4 (j4 (jk::jk::slI GM::jk::slI (mat i i (trF Q))::j16 (j16 (j16 (j16 (j16 (j4 (j4 (j4 (jk::jk::jk::[])))))))))))) (l:=[]) trivial (by
  simp[wk]
  (repeat' apply And.intro)<;>first|rfl|exact(gD (H:=Hm [(25,mxI 25 i i Q),(79,mxI 79 i i (trF Q))]) (d:=79) (n:=i) (c:=i) (f:=trF Q) rfl).symm))) ?_
 refine aM fun _ K=>?_;simp only[kd,aa,slI];apply K
 (refine cX ⟨.inr rfl,rfl,aG rfl ?_ rfl⟩;simp(disch:=omega) only[kd,Tryz.results18,Rb])
end Go.Proofs.YtfgeomlagfomgaaGreatDoor
