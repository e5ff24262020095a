/-
  Part 24 of a proof (walks and plain facts).
-/
import Derived.Test.YtiollbhgpiiodaaGreatDoorP22
set_option linter.all false
set_option maxRecDepth 100000
set_option maxHeartbeats 64000000
open Nat renaming reduceAdd → aa
open Nat renaming le_refl → af
namespace Go.Proofs.YtiollbhgpiiodaaGreatDoor
open Go.RowKit
structure QJ (i n:Nat) where
 j:Nat
 h1:i<j
 h2:j<=n
theorem DH {f:FF} {n:Nat} (hp:PD f n) (hb: ∀i,i<n->f i i<=262144): ∀k,k<=n->gP f k<=((262144^k:Nat):Int)
 |0,_=>by show(1:Int)<=_;decide
 |k+1,hk=>by
  have ih:=DH hp hb k (by omega);have h0:=tX hp k (by omega);have h1:=hb k hk;have h2:=hp.diag hk;rw[gP,Nat.pow_succ];have:=Int.mul_le_mul ih h1 (by omega) (by omega);rw[Int.natCast_mul];exact this
theorem Od {n:Nat} (hn1:1<=n) (hn:n<=4):([[PV.raw (.int .i64 1)],[PV.raw (.int .i64 4)],[PV.raw (.int .i64 2)],[PV.raw (.int .i64 4)]]:List (List PV))[n-1]?=some [PV.raw (.int .i64 (BT n))]:=by
 have:n=1\/n=2\/n=3\/n=4:=by omega
 rcases this with rfl|rfl|rfl|rfl<;>rfl
theorem OL {n:Nat} (hn1:1<=n) (hn:n<=4):([[PV.raw (.int .i64 1)],[PV.raw (.int .i64 3)],[PV.raw (.int .i64 1)],[PV.raw (.int .i64 1)]]:List (List PV))[n-1]?=some [PV.raw (.int .i64 (Cz n))]:=by
 have:n=1\/n=2\/n=3\/n=4:=by omega
 rcases this with rfl|rfl|rfl|rfl<;>rfl
theorem Qo {n:Nat} (hn1:1<=n) (hn:n<=4):(1<=BT n/\BT n<=4)/\1<=Cz n/\Cz n<=4:=by
 have:n=1\/n=2\/n=3\/n=4:=by omega
 rcases this with rfl|rfl|rfl|rfl<;>decide
theorem uY (dim kind:Nat) (L B:List Int) (hL:I8 L) (hdim:dim<=255) (hkind:kind<=255):
  CallG Tryz.prog 0 162 3 [tL dim kind L B] gN ⟨[],.raw (.bool true)⟩:=by
 obtain⟨n,hn⟩: ∃n,n=1+dim%4:=⟨_,rfl⟩;have hn1:1<=n:=by omega
 have hn4:n<=4:=by have:=Nat.mod_lt dim (show 0<4 by omega);omega
 obtain⟨h,hr,cF⟩:=M9 dim kind L B 4 n hL hdim hkind (by omega) (by omega) hn;rw[show((4:Nat):Int)=4 from rfl]at cF;obtain⟨R,ok,hB,cR⟩:=zQ hn1 hn4 hr;have pg:=ok.inb.pd ok.red.pd;have gb:=fun i j hi hj=>ok.gb (i:=i) (j:=j) hi hj
 have eD:dk (gmB n h (p9 (gmB n h R) R)) n=dk h n:=by
  have h1:=IB hn4 hB;have h2:=pg.det;have h3:=hr.pd.det;omega
 obtain⟨b1,b2⟩:=zJ hn1 hn4 pg ok.mink;have off:=fun i j (hij:i<j) (hj:j<n)=>jo pg.1 ok.mink hij hj
 have bH: ∀i j,i<n->j<n-> -262144<=h i j/\h i j<=262144:=fun i j hi hj=>by have:=kn hn1 (by omega) hr i hi j hj;omega
 have cO:=Nh n n h hn1 (by omega) hn1 (by omega) (fun i j hi hj=>by have:=bH i j hi hj;constructor<;>omega);have cT:=fF n h hn1 (by omega) (fun i j hi hj=>jv (by have:=bH i j hi hj;omega) (by omega));rw[o6 (fun t ht=>by have:=hr.2.1 t (by omega);omega),<- eD]at cT;have dp:=pg.det;clear hB eD hr bH;generalize gmB n h (p9 (gmB n h R) R)=g at*
 have bP:=DH pg (fun i hi=>(gb i i hi hi).2);have pP:=tX pg;have sP: ∀k,k<=n->Sz (gP g k) 3:=fun k hk=>by
  have h1:=bP k hk;have h2:=pP k hk;have h3:(262144^k:Nat)<=262144^4:=Nat.pow_le_pow_right (by omega) (by omega);have h4:(262144^4:Nat)<4294967296^3:=by decide
  unfold Sz;omega
 have sD:Sz (dk g n) 3:=by
  have h1:=sP n (af n);unfold Sz at h1⊢;omega
 obtain⟨ho,hu⟩:=Qo hn1 hn4;have g1:=Od hn1 hn4;have g2:=OL hn1 hn4;have cA:=Kr;have c1:=ee 1 (by omega) (by omega);have l1:=bi n n h;have l2:=bi n n g;have sO:Sz (BT n) 1:=jv (by omega) (by omega);have sU:Sz (Cz n) 1:=jv (by omega) (by omega);have k1:=r9 (gP g n) (dk g n) ((sP n (af n)).mono (by omega)) (sD.mono (by omega));have k2:=ee (Cz n) (by omega) (by omega);have k3:=ja (Cz n) (gP g n) (sU.mono (by omega)) ((sP n (af n)).mono (by omega));have k4:=ee (BT n) (by omega) (by omega);have k5:=ja (BT n) (dk g n) (sO.mono (by omega)) (sD.mono (by omega));have k6:=r9 (Cz n*gP g n) (BT n*dk g n) ((sU.mul (sP n (af n))).mono (by omega)) ((sO.mul sD).mono (by omega));have q1:0<=km (gP g n) (dk g n):=by unfold km;split<;>(try split)<;>omega
 have q2:km (Cz n*gP g n) (BT n*dk g n)<=0:=by unfold km;split<;>(try split)<;>omega
 generalize km (gP g n) (dk g n)=y1 at*
 generalize km (Cz n*gP g n) (BT n*dk g n)=y2 at*
 have e0:IntKind.i64.wrap ((n:Int)-1)=((n-1:Nat):Int):=by rw[aT (by omega) (by omega)];omega
 generalize BT n=ov at*
 generalize Cz n=un at*
 generalize dk g n=D at*
 generalize bx n n (trF (p9 (gmB n h R) R))=TT at*
 generalize hM:bx n n h=M at*
 clear hM;refine gD Tryz.func3 rfl (by kernel_rfl) ?_;rw[Tryz.ntmps3];refine aQ fun _ K=>?_;simp(disch:=omega) only[kd,tL,List.replicate,aa];apply K
 refine ik [⟨1,_,_,_,cF⟩] [] fun _ K=>?_;simp only[kd,tL,bS,aa];apply K
 refine dY [⟨1,_,_,_,cR,rfl⟩] [] [] fun _ K=>?_;simp(disch:=omega) only[kd,bS,OU,dV.a,aa];apply K
 refine bI (aQ fun _ K=>?_);simp(disch:=omega) only[kd,aa,l2,l1];apply K;refine gz rfl (ef ?_);show dG _ _ _ _ _ _ _;refine ik [⟨0,_,_,_,c1⟩] [] fun _ K=>?_;simp(disch:=omega) only[kd,tZ,aa,Nat.reduceEqDiff];apply K
 refine bI (aQ fun _ K=>?_);simp only[kd,aa,l2];apply K;refine dO (G:=kK n) (fun q=>⟨(jk::jk::jk::bS M::bS (bx n n g)::jk::jk::.one (.ptr 7 0 0 0)::j16 (j4 (j4 (.raw (.int .i64 (n:Int))::rN q.i::j16 (j16 (j16 (j16 (j16 (j4 (j4 ([]))))))))))),Hm [(7,uO (gP g q.i))]⟩) (fun _=>gN) (fun q=>n-q.i) ⟨0,by omega⟩ ?_ rfl ?_
 ·refine aG ⟨rfl,trivial⟩ ?_;simp[wk]
 rintro⟨i,hi⟩;simp only;by_cases hm:i<n
 ·have m1:=bD n g hm;have r1:=aY (g i) hm;have l4:=bE n (g i);have hbi:=gb i i hm hm;have c2:=ee (g i i) (by omega) (by omega);have c3:=ja (gP g i) (g i i) ((sP i (by omega)).mono (by omega)) ((jv (by omega) (by omega)).mono (af _));rw[show gP g i*g i i=gP g (i+1)from rfl]at c3;refine aQ fun _ K=>?_;simp(disch:=omega) only[kd,bS];apply K
  refine gA rfl ?_;refine bI (cB ?_);refine aQ fun _ K=>?_;simp only[kd];apply K
  refine bI (aQ fun _ K=>?_);simp(disch:=omega) only[kd,aa,m1,fR,l4,l1];apply K;refine gz rfl (ef ?_);show dG _ _ _ _ _ _ _;refine kf bj [⟨8,_,_,_,c2⟩,⟨9,_,_,_,c3⟩] [] (by kernel_rfl) fun _ K=>?_;simp(disch:=omega) only[kd,tZ,aa,m1,fR,r1,Nat.reduceBEq];apply K
  refine aQ fun _ K=>?_;simp(disch:=omega) only[kd,aa,aT];apply K
  refine dO (G:=QJ i n) (fun q=>⟨(jk::jk::jk::bS M::bS (bx n n g)::jk::jk::.one (.ptr 7 0 0 0)::rN i::rN q.j::j16 (j4 (jk::jk::rN n::rN i::j16 (j16 (j16 (j16 (j16 (j4 (j4 ([])))))))))),Hm [(7,uO (gP g (i+1)))]⟩) (fun _=>gN) (fun q=>n-q.j) ⟨i+1,by omega,by omega⟩ ?_ rfl ?_
  ·refine aG ⟨rfl,trivial⟩ ?_;simp[wk]
  rintro⟨j,hj1,hj⟩;simp only;by_cases hmj:j<n
  ·have r2:=aY (g i) hmj;have hbj:=gb i j hm hmj;have ho1:=off i j hj1 hmj;obtain⟨y,hy⟩: ∃y,y=(if(0-g i j)>g i j then 0-g i j else g i j):=⟨_,rfl⟩;have hy':(if(0-g i j)>g i j then 0-g i j else g i j)=y:=hy.symm;have hyb: -1000000<=y/\2*y<=g i i:=by rw[hy];split<;>omega
   have en:IntKind.i64.wrap (0-g i j)=0-g i j:=aT (by omega) (by omega);have e2:IntKind.i64.wrap (2*y)=2*y:=aT (by omega) (by omega);clear hy;refine bI (aQ fun _ K=>?_);simp(disch:=omega) only[kd,aa,bS,l2];apply K;refine jb rfl (ef ?_);refine bI (cB ?_);refine gS bj (by kernel_rfl) fun _ K=>?_;simp(disch:=omega) only[kd,aa,m1,fR,r2,en,hy',e2,r1];apply K
   refine gz rfl (ef ?_);show dG _ _ _ _ _ _ _;refine cC fun _ K=>?_;simp(disch:=omega) only[kd,aa,aT];apply K
   refine⟨⟨j+1,by omega,by omega⟩,by simp only;omega,aG ⟨rfl,trivial⟩ ?_,rfl⟩;simp[wk]
  have hjn:j=n:=by omega
  subst hjn;refine bI (aQ fun _ K=>?_);simp(disch:=omega) only[kd,aa,bS,l2];apply K;refine gz rfl (sA ?_);show dG _ _ _ _ _ _ _;refine cC fun _ K=>?_;simp(disch:=omega) only[kd,aT];apply K
  refine⟨⟨i+1,by omega⟩,by simp only;omega,aG ⟨rfl,trivial⟩ ?_,rfl⟩;simp[wk]
 have hin:i=n:=by omega
 subst hin;refine aQ fun _ K=>?_;simp(disch:=omega) only[kd,bS];apply K
 refine jc rfl ?_;show dG _ _ _ _ _ _ _;refine ik [⟨1,_,_,_,cO⟩,⟨2,_,_,_,cT⟩] [] fun _ K=>?_;simp(disch:=omega) only[kd,bS,bJ,tZ,aa,Nat.reduceBEq,Nat.reduceEqDiff];apply K
 refine gS bj (by kernel_rfl) fun _ K=>?_;simp(disch:=omega) only[kd,aa,Nat.reduceMul,Nat.reduceLeDiff,l1,e0,g1,g2];apply K
 refine yy bj [⟨17,_,_,_,cA,rfl⟩] [⟨2,_,_,_,k1⟩,⟨6,_,_,_,k2⟩,⟨8,_,_,_,k3⟩,⟨10,_,_,_,k4⟩,⟨12,_,_,_,k5⟩,⟨13,_,_,_,k6⟩] [] (by kernel_rfl) fun _ K=>?_;simp(disch:=omega) only[kd,tZ,dV.a,aa,Nat.reduceEqDiff,Nat.reduceBEq];apply K
 (refine fo ⟨.inr rfl,rfl,aL rfl ?_ rfl⟩;simp(disch:=omega) only[kd,Tryz.results3])
end Go.Proofs.YtiollbhgpiiodaaGreatDoor
