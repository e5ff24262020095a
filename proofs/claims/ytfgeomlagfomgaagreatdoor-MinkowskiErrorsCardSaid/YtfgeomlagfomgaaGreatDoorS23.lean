/-
  Part 24 of a proof (walks and plain facts).
-/
import Derived.Test.YtfgeomlagfomgaaGreatDoorS22
set_option linter.all false
set_option maxRecDepth 100000
set_option maxHeartbeats 64000000
open Nat renaming reduceAdd → aa
open Nat renaming reduceEqDiff → ab
open List renaming replicate → ae
open Nat renaming reduceBEq → af
open Nat renaming reduceLeDiff → ah
namespace Go.Proofs.YtfgeomlagfomgaaGreatDoor
open Go.RowKit
section
section
variable (n:Nat) (h B:FF) (hn1:1<=n) (hn:n<=4) (hr:RedR h n) (hB: ∀a,a<n->GdR n h (B a)) (hs: ∀k,k+1<n->nrm n h (B k)<=nrm n h (B (k+1)))
include hn1 hn hr hB hs
theorem Fv:CallC Tryz.prog 151 [bi (bu n n B),.raw (.int .i64 0),.raw (.int .i64 (n:Int)),Od n h] ⟨[],.tup []⟩:=by
 have hml:=aV n n B;refine aJ Tryz.func151 rfl (by kernel_rfl) ?_;rw[Tryz.ntmps151];refine aD fun _ K=>?_;simp(disch:=omega) only[kd,aa,bi,ae,aP];apply K
 refine aT (G:=PF n) (fun g=>⟨(bi (bu n n B)::.raw (.int .i64 0)::rN n::.fn 92 [.p (.ptr (fA (bu n n h)))]::j4 (.raw (.int .i64 (g.i:Int))::j16 (j16 (j4 (j4 (j4 ([]))))))),Hm []⟩) (fun g=>n-g.i) ⟨1,by omega,hn1⟩ ?_ ?_
 ·refine aF trivial ?_;simp[wk]
 rintro⟨i,hi1,hi⟩;simp only;by_cases hm:i<n
 ·obtain⟨j,rfl⟩: ∃j,i=j+1:=⟨i-1,by omega⟩;have hC:=Hv hn1 hn hr (hB (j+1) hm) (hB j (by omega));have hneg: ¬nrm n h (B (j+1))-nrm n h (B j)<0:=by have:=hs j hm;omega
  have e0:IntKind.i64.wrap (((j+1:Nat):Int)-1)=(j:Int):=by rw[show((j+1:Nat):Int)-1=(j:Int) by omega];exact aP (by omega) (by omega)
  have gt:(0:Int)<((j+1:Nat):Int):=by omega
  have m1:=bD n B hm;have m2:=bD n B (show j<n by omega);refine aE (aD fun _ K=>?_);simp(disch:=omega) only[kd,aa,bi];apply K;refine aS rfl (aL ?_);refine aE (aK ?_);refine aD fun _ K=>?_;simp only[kd];apply K
  refine aT (G:=Unit) (fun _=>⟨(bi (bu n n B)::.raw (.int .i64 0)::rN n::.fn 92 [.p (.ptr (fA (bu n n h)))]::j4 (.raw (.int .i64 ((j+1:Nat):Int))::.raw (.int .i64 ((j+1:Nat):Int))::j16 (j16 (j4 (j4 (jk::jk::jk::[])))))),Hm []⟩) (fun _=>0) () ?_ ?_
  ·refine aF trivial ?_;simp[wk]
  intro _;refine aE (bv aZ [⟨14,_,_,_,hC⟩] [] (by kernel_rfl) fun _ K=>?_);simp(disch:=omega) only[kd,iU,aa,bi,gt,m1,fR,e0,m2,hneg];apply K;refine aO rfl (bK ?_);show bs _ _ _ _;refine aM fun _ K=>?_;simp(disch:=omega) only[kd,aa,aP];apply K
  refine⟨⟨j+1+1,by omega,by omega⟩,by simp only;omega,aF trivial ?_⟩;simp[wk]
 have hin:i=n:=by omega
 subst hin;refine aE (aD fun _ K=>?_);simp(disch:=omega) only[kd,aa,bi];apply K;refine aO rfl (bK ?_);exact⟨.inl rfl,aH rfl rfl rfl⟩
theorem J8:CallC Tryz.prog 123 [bi (bu n n B),.raw (.int .i64 (n:Int)),Od n h] ⟨[],.tup []⟩:=by
 have hI:=Fv n h B hn1 hn hr hB hs;refine aJ Tryz.func123 rfl (by kernel_rfl) ?_;rw[Tryz.ntmps123];refine aD fun _ K=>?_;simp only[kd,bi,aa,ae];apply K
 refine aD fun _ K=>?_;simp only[kd,aa];apply K
 refine aE (aT (G:=Unit) (fun _=>⟨(bi (bu n n B)::rN n::.fn 92 [.p (.ptr (fA (bu n n h)))]::jk::jk::jk::.raw (.int .i64 20)::.raw (.int .i64 0)::.raw (.int .i64 20)::j16 (j16 (j16 (j4 (jk::jk::[]))))),Hm []⟩) (fun _=>0) () ?_ ?_)
 ·refine aF trivial ?_;simp[wk]
 intro _;refine aE (aD fun _ K=>?_);simp(disch:=omega) only[kd,aa,bi];apply K;refine aO rfl (bK ?_);show bs _ _ _ _;refine aG [⟨4,_,_,_,hI⟩] [] fun _ K=>?_;simp only[kd,bi,aa];apply K
 refine aT (G:=Unit) (fun _=>⟨(jk::rN n::j4 (.raw (.int .i64 20)::j16 (j16 (j16 (j4 (j4 ([]))))))),Hm []⟩) (fun _=>0) () ?_ ?_
 ·refine aF trivial ?_;simp[wk]
 intro _;refine aE (aD fun _ K=>?_);simp(disch:=omega) only[kd,aa];apply K;refine aO rfl (bK ?_);exact⟨.inl rfl,aH rfl rfl rfl⟩
theorem yv:CallC Tryz.prog 91 [bi (bu n n B),Od n h] ⟨[],.tup []⟩:=by
 have hI:=J8 n h B hn1 hn hr hB hs;have hml:=aV n n B;refine aJ Tryz.func91 rfl (by kernel_rfl) ?_;rw[Tryz.ntmps91];refine kp [⟨4,_,_,_,hI⟩] [] fun _ K=>?_;simp only[kd,bi,aa,ae,hml];apply K
 exact⟨.inl rfl,aH rfl rfl rfl⟩
end
theorem Gf:p7 ⟨[],.tup []⟩:=⟨rfl,fun o ho=>by simp at ho⟩
theorem HU {ops:Array Oper} {m d:Nat} {s:AS} (hd:cwD ops m=some d):Og ops m ⟨[],.tup []⟩ s=s.put (some d) (.tup []):=by
 unfold Og;rw[hd];rfl
theorem Cf (n:Nat) (h:FF) (hn1:1<=n) (hn:n<=4) (hr:RedR h n) (hs: ∀k,k+1<n->nrm n h (idF k)<=nrm n h (idF (k+1))) (hv:rW n (gmB n h idF)=none):
  CallG Tryz.prog 0 138 46 [bi (bu n n h)] fi ⟨de 0 n n idF,.one (.sl 0 0 0 n)⟩:=by
 have hS:InB2 n h 262144 idF:=InB2.one hn1 (by omega) hr;have cM:=yv n h idF hn1 hn hr hS.nr hs;have cV:=mM n (gmB n h idF) hn1 hn fun i j hi hj=>by
  have:=mF hr.pd hS hi hj 262144 (by decide);omega
 have eT:o9 n (gmB n h idF)= .tup [(false,[.p (.raw (.int .i64 0))]),(true,a4 fun _=>0),(false,[.p (.raw (.bool false))])]:=by unfold o9;rw[hv]
 rw[eT]at cV;clear hv eT hs;have hml:=aV n n h;refine cY Tryz.func46 rfl (by kernel_rfl) ?_;rw[Tryz.ntmps46];refine aN fun _ K=>?_;simp(disch:=omega) only[kd,bi,ae];apply K
 refine dy.weak ((mq 1 1 (cs:=fA (bu n n h)) rfl rfl).trans (aF (tm:=(jk::.one (.p (.ptr (fA (bu n n h))))::j16 (j16 (j16 (j16 (j16 (j4 (jk::jk::[])))))))) (l:=[]) trivial (by simp[wk,gW,fD]))) ?_;refine aN fun _ K=>?_;simp(disch:=omega) only[kd,aa,hml];apply K
 refine bx (aN fun _ K=>?_);simp only[kd,aa];apply K;refine d8 (G:=jD n) (fun g=>⟨(jk::.one (.p (.ptr (fA (bu n n h))))::jk::.one (.sl 17 0 0 n)::j4 (j4 (j4 (jk::jk::jk::rN n::rN g.i::j16 (j16 (j16 (j16 (jk::jk::jk::[])))))))),Hm [(17,kI 17 n n g.i (qp g.i))]⟩) (fun _=>fi) (fun g=>n-g.i) ⟨0,by omega⟩ ?_ rfl ?_
 ·refine aF ⟨?_,trivial⟩ ?_
  ·show[_]=_;simp[kI,gm,bu]
  simp[wk]
 rintro⟨i,hi⟩;simp only;by_cases hm:i<n
 ·have k1:=qL (i:=i) (n:=n) 17 n hm;have k2:=jt (i:=i) (n:=n) 17 n hi;have k3:=aV i n (qp i);have k4:=nB (i:=i) (n:=n) (c:=n) 17 (qp i) hm (fun j hj=>by unfold qp;rw[if_neg (by omega)]);have k5:=qK (i:=i+1) (k:=i) (n:=n) 17 n (by omega);have k6:=jt (i:=i+1) (n:=n) 17 n (by omega);have k7:=cL (n:=i+1) n (qp i) (i:=i) (by omega);have k8:=aU (qp i i) hm;refine aN fun _ K=>?_;simp(disch:=omega) only[kd];apply K
  refine fB rfl ?_;refine bx (bU ?_);refine aN fun _ K=>?_;simp only[kd];apply K
  refine aN fun _ K=>?_;simp(disch:=omega) only[kd,aa,hml,ab,k1,ah,List.length_replicate,List.all_replicate,k3,k4,af];apply K
  refine dy.weak (aF (tm:=(jk::.one (.p (.ptr (fA (bu n n h))))::jk::.one (.sl 17 0 0 n)::rN i::j4 (j4 (j4 (jk::jk::rN n::rN i::j16 (j16 (j16 (j16 (jk::jk::jk::[]))))))))) (l:=[(17,kI 17 n n (i+1) (qp i))]) ⟨?_,trivial⟩ (by simp[wk])) ?_
  ·first|exact k4|rfl
  refine b9 fun _ K=>?_;simp(disch:=omega) only[kd,aa,k5,k7,k8,fj];apply K
  show dy _ _ _ _ _ _ _;refine b9 fun _ K=>?_;simp(disch:=omega) only[kd,aP];apply K
  refine⟨⟨i+1,by omega⟩,by simp only;omega,aF ⟨?_,trivial⟩ ?_,rfl⟩
  ·show _::_=_::_;rw[cw fun x y _ _=>uz i x y]
  simp[wk]
 have hin:i=n:=by omega
 subst hin;refine aN fun _ K=>?_;simp(disch:=omega) only[kd];apply K
 refine iM rfl ?_;show dy _ _ _ _ _ _ _;have e:kI 17 i i i (qp i)=de 17 i i idF:=by
  rw[mG];show _::_=_::_;rw[cw fun x y hx _=>ya x y hx]
 rw[e];obtain⟨n,hni⟩: ∃n,n=i:=⟨_,rfl⟩;subst hni;clear e hm hi;refine d8 (G:=Unit) (fun _=>⟨(jk::.one (.p (.ptr (fA (bu n n h))))::jk::.one (.sl 17 0 0 n)::j16 (j16 (j16 (j16 (j16 (j4 ([]))))))),Hm [(17,de 17 n n idF)]⟩) (fun _=>fi) (fun _=>0) () ?_ rfl ?_
 ·refine aF ⟨rfl,trivial⟩ ?_;simp[wk]
 intro _;refine bU ?_;have c1:=BY hn1 hn hr hS;obtain⟨S,hSe⟩: ∃S,S=idF:=⟨_,rfl⟩;rw[<- hSe]at c1 cV cM⊢;refine bx (k9 (kY 2 cM Gf [] [] (by simp[wk]) (by decide) fun K hK=>?_));simp only[kd,jo];apply hK;clear hK K;refine⟨⟨⟨_,rfl,.inr ⟨17,0,0,n,rfl,dj (d:=17) (n:=n) (c:=n) (f:=S) rfl,ky (d:=17) (n:=n) (c:=n) (f:=S) rfl⟩,.inl ⟨rfl,rfl⟩,trivial⟩,⟨38,rfl,fun h=>(h rfl).elim⟩⟩,by simp,?_⟩;intro K hK;rw[HU (d:=38) rfl];simp only[kd,aa];apply hK;clear hK K;show dy _ _ _ _ _ _ _;refine dy.weak (aF (tm:=(jk::.one (.p (.ptr (fA (bu n n h))))::jk::.one (.sl 17 0 0 n)::j16 (j16 (j16 (j16 (j16 (j4 ([])))))))) (l:=[(17,de 17 n n S)]) ⟨rfl,trivial⟩ (by simp[wk])) ?_
 -- the Gram matrix
 refine bx (k9 (kY 2 c1 (yi _ _ _ _) [] [] (by simp[wk]) (by decide) fun K hK=>?_));simp only[kd];apply hK;clear hK K;refine⟨⟨⟨_,rfl,.inl ⟨rfl,rfl⟩,.inr ⟨17,0,0,n,rfl,dj (d:=17) (n:=n) (c:=n) (f:=S) rfl,ky (d:=17) (n:=n) (c:=n) (f:=S) rfl⟩,trivial⟩,⟨42,rfl,fun _=>rfl⟩⟩,by simp,?_⟩;intro K hK;rw[Bw (d:=42) rfl];simp only[kd,aa];apply hK;clear hK K;show dy _ _ _ _ _ _ _;refine dy.weak (aF (tm:=(jk::.one (.p (.ptr (fA (bu n n h))))::jk::.one (.sl 17 0 0 n)::jk::.one (.sl 42 0 0 n)::j16 (j16 (j16 (j16 (j16 (jk::jk::[]))))))) (l:=[(17,de 17 n n S),(42,de 42 n n (gmB n h S))]) ⟨rfl,rfl,trivial⟩ (by simp[wk])) ?_;refine dy.weak ((bW 42 (dj (d:=42) (n:=n) (c:=n) (f:=gmB n h S) rfl)).trans (aF (tm:=(jk::.one (.p (.ptr (fA (bu n n h))))::jk::.one (.sl 17 0 0 n)::jk::bi (bu n n (gmB n h S))::j16 (j16 (j16 (j16 (j16 (jk::jk::[]))))))) (l:=[(17,de 17 n n S)]) ⟨rfl,trivial⟩ (by
  simp[wk]
  (repeat' apply And.intro)<;>first|rfl|exact(ky (H:=Hm [(17,de 17 n n S),(42,de 42 n n (gmB n h S))]) (d:=42) (n:=n) (c:=n) (f:=gmB n h S) rfl).symm))) ?_
 refine bN [⟨1,_,_,_,cV,rfl⟩] [] [] fun _ K=>?_;simp(disch:=omega) only[kd,bi,di.a,aa,jj,oB,ab,dS,fw];apply K
 refine bx (aN fun _ K=>?_);simp only[kd];apply K;refine dJ rfl ?_;refine aN fun _ K=>?_;simp only[kd];apply K
 refine cz ⟨.inr rfl,rfl,_,ca.refl _,?_⟩;refine⟨.one (.sl 17 0 0 n),17,?_,rfl,?_,rfl⟩
 ·simp(disch:=omega) only[kd,Tryz.results46]
 exact(cx 17 0 _ _ _).symm
end
abbrev Nu (d:List Int) (e:Int):TV:= .tup [(false,[.p (.sl (ls fI d))]),(false,[.p (.raw (.int .i64 e))])]
def Lq (g:FF) (i:Nat):Nat->Int:=fun j=>if j<i then g j j else 0
theorem H6 (g:FF) (i:Nat):(fun b=>if b=i then g i i else Lq g i b)=Lq g (i+1):=by
 funext b;unfold Lq;by_cases h:b=i
 ·subst h;rw[if_pos rfl,if_pos (by omega)]
 by_cases h2:b<i
 ·rw[if_neg h,if_pos h2,if_pos (by omega)]
 rw[if_neg h,if_neg h2,if_neg (by omega)]
theorem Lr (n:Nat) (g:FF):bG n (Lq g n)=bG n (fun i=>g i i):=fG fun j hj=>if_pos hj
theorem z7 (M G T:List (List Int)) (e:Int) (he:e≠0) (cR:CallG Tryz.prog 0 138 18 [bi M] fi ⟨[],yM G T e⟩):
  CallG Tryz.prog 0 138 29 [bi M] fi ⟨[],Nu [] e⟩:=by
 refine cY Tryz.func29 rfl (by kernel_rfl) ?_;rw[Tryz.ntmps29];refine aN fun _ K=>?_;simp only[kd,bi,ae];apply K
 refine bN [⟨1,_,_,_,cR,rfl⟩] [] [] fun _ K=>?_;simp(disch:=omega) only[kd,bi,yM,di.a,aa];apply K
 refine bx (aN fun _ K=>?_);simp only[kd,he];apply K;refine dJ rfl ?_;refine aN fun _ K=>?_;simp only[kd,aa];apply K
 refine dy.weak (nf 2 rfl) ?_
 (refine cz ⟨.inr rfl,rfl,aH rfl ?_ rfl⟩;simp(disch:=omega) only[kd,Tryz.results29,Nu])
theorem IK (M T:List (List Int)) (n:Nat) (g:FF) (hn:n<=4) (cR:CallG Tryz.prog 0 138 18 [bi M] fi ⟨[],yM (bu n n g) T 0⟩):
  CallG Tryz.prog 0 138 29 [bi M] fi ⟨[],Nu (bG n (fun i=>g i i)) 0⟩:=by
 have hml:=aV n n g;refine cY Tryz.func29 rfl (by kernel_rfl) ?_;rw[Tryz.ntmps29];refine aN fun _ K=>?_;simp only[kd,bi,ae];apply K
 refine bN [⟨1,_,_,_,cR,rfl⟩] [] [] fun _ K=>?_;simp(disch:=omega) only[kd,bi,yM,di.a,aa];apply K
 refine bx (aN fun _ K=>?_);simp(disch:=omega) only[kd];apply K;refine dp rfl (dC ?_);show dy _ _ _ _ _ _ _;refine aN fun _ K=>?_;simp(disch:=omega) only[kd,aa,hml];apply K
 refine dy.weak (aF (tm:=(jk::jk::jk::.raw (.int .i64 0)::bi (bu n n g)::jk::jk::.one (.sl 21 0 0 n)::j16 (j4 (j4 (j4 (jk::jk::[])))))) (l:=[(21,[⟨2,1,lc fI (bG n (Lq g 0))⟩])]) ⟨?_,trivial⟩ (by simp[wk])) ?_
 ·rw[PZ (X:=Lq g 0) fun j _=>if_neg (by omega)];rfl
 refine bx (aN fun _ K=>?_);simp only[kd,aa,bi,hml];apply K;refine d8 (G:=jD n) (fun q=>⟨(jk::jk::jk::.raw (.int .i64 0)::jk::jk::jk::.one (.sl 21 0 0 n)::j4 (j4 (j4 (jk::jk::bi (bu n n g)::rN n::rN q.i::j4 (j4 (j4 (jk::[]))))))),Hm [(21,[⟨2,1,lc fI (bG n (Lq g q.i))⟩])]⟩) (fun _=>fi) (fun q=>n-q.i) ⟨0,by omega⟩ ?_ rfl ?_
 ·refine aF ⟨rfl,trivial⟩ ?_;simp[wk]
 rintro⟨i,hi⟩;simp only;by_cases hm:i<n
 ·have hr:=bD n g hm;have hii:=aU (g i) hm;have g2:=aU (m:=n) (Lq g i) (j:=i) hm;have s1:=nE n i (Lq g i) (g i i);rw[H6]at s1;refine aN fun _ K=>?_;simp(disch:=omega) only[kd,bi];apply K
  refine fB rfl ?_;refine bx (bU ?_);refine aN fun _ K=>?_;simp(disch:=omega) only[kd,aa,hr,fR];apply K
  refine b9 fun _ K=>?_;simp(disch:=omega) only[kd,aa,hii,g2,s1];apply K
  show dy _ _ _ _ _ _ _;refine b9 fun _ K=>?_;simp(disch:=omega) only[kd,aP];apply K
  refine⟨⟨i+1,by omega⟩,by simp only;omega,aF ⟨rfl,trivial⟩ ?_,rfl⟩;simp[wk]
 have hin:i=n:=by omega
 subst hin;refine aN fun _ K=>?_;simp(disch:=omega) only[kd,bi];apply K
 refine iM rfl ?_;show dy _ _ _ _ _ _ _;rw[Lr];refine aN fun _ K=>?_;simp only[kd,aa];apply K
 refine cz ⟨.inr rfl,rfl,jz 21 (cH rfl) ?_ rfl⟩;simp(disch:=omega) only[kd,Tryz.results29,io,Nu]
/-! awake -/
abbrev Di:List (List Int):=[[2,-1],[-1,3]]
abbrev QT:List (List Int):=[[2,-1],[-1,2]]
abbrev QA:List (List Int):=[[2,1],[1,3]]
theorem N2:bA Di=true:=by decide+kernel
theorem Dj:Di=bu 2 2 (ent Di):=rfl
theorem xr:RedR (ent Di) 2:=by
 have h:=(dw _).1 N2;rw[Dj]at h;have:=((sO (by omega)).1 h).2.2;exact this
theorem PK: ¬pe QT:=fun h=>by
 have:=(h.2.1 0 (by decide)).2
 revert this;decide
theorem QB:bu 2 2 (gmB 2 (ent Di) (uX (gmB 2 (ent Di) idF) idF))=QA:=by decide+kernel
theorem La (k:Nat) (hk:k+1<2):nrm 2 (ent Di) (idF k)<=nrm 2 (ent Di) (idF (k+1)):=by
 obtain rfl:k=0:=by omega
 decide
theorem N3:rW 2 (gmB 2 (ent Di) idF)=none:=by
 have h: ∀i,i<2-> ¬VioP 2 (gmB 2 (ent Di) idF) i:=fun i hi=>by
  rintro⟨c,h1,h2⟩
  match i,hi with
  |0,_=>
   obtain rfl:c=0:=by simpa using h1
   revert h2;decide
  |1,_=>
   have hc:c=0\/c=1\/c=2:=by omega
   rcases hc with rfl|rfl|rfl<;>revert h2<;>decide
 show rj 2 _ 2 0=none;rw[rj,if_neg (h 0 (by omega)),rj,if_neg (h 1 (by omega))];rfl
theorem Dk:CallG Tryz.prog 0 138 13 [] fi ⟨[],.raw (.bool true)⟩:=by
 have cR:=t8 2 (ent Di) idF (by omega) (by omega) xr (InB2.one (by omega) (by omega) xr) (Cf 2 (ent Di) (by omega) (by omega) xr La N3);have hTl:=aV 2 2 (trF (uX (gmB 2 (ent Di) idF) idF));rw[QB,<- Dj]at cR;generalize bu 2 2 (trF (uX (gmB 2 (ent Di) idF) idF))=T at*
 have hTi:(T.length:Int)=2:=by omega
 have cS:=OP QA QA;rw[decide_eq_true rfl]at cS;have cI:=pE QT false (by simp[PK]);simp only[bi,ls,fR,fI,List.map_cons,List.map_nil]at cR cS cI;refine cY Tryz.func13 rfl (by kernel_rfl) ?_;rw[Tryz.ntmps13];refine aN fun _ K=>?_;simp only[kd,ae];apply K
 refine bN [⟨3,_,_,_,cR,rfl⟩] [] [] fun _ K=>?_;simp(disch:=omega) only[kd,yM,di.a,aa,Nat.reduceMul,ah];apply K
 refine bN [⟨18,_,_,_,cI,rfl⟩] [⟨12,_,_,_,cS⟩] [] fun _ K=>?_;simp(disch:=omega) only[kd,di.a,aa,ls,fR,hTi,Nat.reduceMul,ah,af];apply K
 (refine cz ⟨.inr rfl,rfl,aH rfl ?_ rfl⟩;simp(disch:=omega) only[kd,Tryz.results13])
theorem LT {n c i:Nat} (g:FF) (h:Nat->Int):((bu n c g).map mn).set i ⟨42,2,lc fZ (bG c h)⟩=(bu n c (fun r=>if r=i then h else g r)).map mn:=by
 rw[<- xU,List.map_set];rfl
theorem F5 (f:FF) (i a b:Nat):(fun r=>if r=i then f i else part f i 0 r) a b=part f (i+1) 0 a b:=by
 by_cases e:a=i
 ·subst e;simp[part]
 by_cases h:a<i
 ·simp[part,e,h,show a<i+1 by omega]
 simp[part,e,h,show ¬a<i+1 by omega]
theorem uv (n:Nat) (f:FF) (hn1:1<=n) (hn:n<=16) (hf: ∀i j,i<n->j<n->Sz (f i j) 1024):
  CallC Tryz.prog 160 [bE (bu n n f)] ⟨[],tZ (detF n f)⟩:=by
 have hml:=aV n n f;refine aJ Tryz.func160 rfl (by kernel_rfl) ?_;rw[Tryz.ntmps160];refine aD fun _ K=>?_;simp(disch:=omega) only[kd,bE,ae,aa];apply K
 refine aD fun _ K=>?_;simp only[kd,aa,hml];apply K
 refine aD fun _ K=>?_;simp(disch:=omega) only[kd,aa,ab];apply K
 refine aE (aD fun _ K=>?_);simp only[kd,aa,hml];apply K;refine aT (G:=jD n) (fun g=>⟨(jk::jk::.one (.ptr 2 0 0 0)::rN n::.one (.sl 18 0 0 n)::j4 (j4 (j4 (jk::jk::bE (bu n n f)::rN n::rN g.i::j16 (j16 (j16 (j16 (j16 (j16 (j16 (j4 (j4 (j4 (jk::jk::jk::[])))))))))))))),Hm [(2,qB),(18,A5 18 n n g.i (part f g.i 0))]⟩) (fun g=>n-g.i) ⟨0,by omega⟩ ?_ ?_
 ·refine(eE 18).trans (aF ⟨rfl,v7 18 n n _,trivial⟩ ?_);simp[wk]
 rintro⟨i,hi⟩;simp only;by_cases hm:i<n
 ·have hr:=bD n f hm;have hg:=yI (d:=18) (c:=n) hm;refine aD fun _ K=>?_;simp(disch:=omega) only[kd,bE];apply K
  refine bC rfl ?_;refine aE (aK ?_);refine aD fun _ K=>?_;simp(disch:=omega) only[kd,aa,hr,fR];apply K
  simp only[A5];refine aD fun _ K=>?_;simp(disch:=omega) only[kd,aa,ab,hg,ah,List.length_replicate,List.all_replicate,aV,af];apply K
  refine bs.weak ((eE 18).trans (aF (tm:=(jk::jk::.one (.ptr 2 0 0 0)::rN n::.one (.sl 18 0 0 n)::rN i::.one (.p (.sl (ls fZ (bG n (f i)))))::j4 (j4 (j4 (bE (bu n n f)::rN n::rN i::j16 (j16 (j16 (j16 (j16 (j16 (j16 (j4 (j4 (j4 (jk::jk::jk::[]))))))))))))))) (l:=[(2,qB),(18,A5 18 n n (i+1) (part f i 0))]) ⟨rfl,zo (part f i 0) hm (fun b _=>by simp[part]),trivial⟩ (by simp[wk]))) ?_;have a1:=Dm (d:=18) (n:=n) (c:=n) (show i<i+1 by omega);have a2:=Dn (d:=18) (n:=n) (c:=n) (show i+1<=n by omega);have a3:=ee (n:=i+1) n (part f i 0) (show i<i+1 by omega);simp only[A5];refine EP 5 84 42 (.one (.p (.sl (ls fZ (bG n (f i)))))) n 18 (i+1) ⟨42,2,lc fZ (bG n (part f i 0 i))⟩ (lc fZ (bG n (f i))) [] [] (by simp only[vk]) (by simp only[qn]) (by omega) (by simp[tW,bz]) (by intro e he;obtain⟨z,_,rfl⟩:=List.mem_map.1 he;rfl) (by simp[wk]) (by decide) fun K hK=>?_
  simp(disch:=omega) only[kd,aa,bE,ab,a1];apply hK;clear hK K;refine⟨⟨rfl,a3,by simp[newsOf,IJ],by simp[tW,bz]⟩,by simp,?_⟩;intro K hK;simp only[kd,aa,GJ,cwD,ab];apply hK;clear hK K;show bs _ _ _ _;refine aM fun _ K=>?_;simp(disch:=omega) only[kd,aP];apply K
  refine⟨⟨i+1,by omega⟩,by simp only;omega,aF ⟨rfl,?_,trivial⟩ ?_⟩
  ·show _::_=_::_;rw[LT,cq fun a b _ _=>F5 f i a b]
  simp[wk]
 have hin:i=n:=by omega
 subst i;have hS:=tQ 1 (by omega) (by omega);rw[zm];have e:gI 18 n n (part f n 0)=gI 18 n n f:=by
  show _::_=_::_;rw[cq fun a b ha _=>jw f a b ha]
 rw[e];refine aD fun _ K=>?_;simp(disch:=omega) only[kd,bE];apply K
 refine bJ rfl ?_;show bs _ _ _ _;refine aD fun _ K=>?_;simp only[kd];apply K
 refine aG [⟨0,_,_,_,hS⟩] [] fun _ K=>?_;simp(disch:=omega) only[kd,tZ,aa,ab];apply K
 refine aE (aD fun _ K=>?_);simp only[kd];apply K;refine aT (G:=QM n f) (fun g=>⟨(jk::jk::.one (.ptr 2 0 0 0)::rN n::.one (.sl 18 0 0 n)::jk::jk::.raw (.bool g.neg)::.one (.ptr 8 0 0 0)::j16 (j4 (j4 (j4 (jk::jk::rN n::rN g.k::j16 (j16 (j16 (j16 (j16 (j16 (j4 (j4 (j4 ([])))))))))))))),Hm [(2,qB),(8,qo g.last),(18,gI 18 n n g.g)]⟩) (fun g=>n-g.k) ⟨0,f,1,false,1024,by omega,rfl,by omega,by omega,hf,lZ (by omega)⟩ ?_ ?_
 ·refine aF ⟨rfl,rfl,rfl,trivial⟩ ?_;simp[wk]
 rintro⟨k,g,last,neg,b,hk,hv,hl,hb,sgz,slz⟩;simp only;by_cases hm:k<n
 ·have h2k:=il (k:=k) (by omega);have hbb:b<=67174400:=by omega
  have hvk:detG n k g last neg=if piv g n k k=n then 0 else detG n (k+1) (I3 k last (KS n k g)) (KS n k g k k) (neg !=decide (k<piv g n k k)):=by rw[detG,if_pos hm]
  refine aD fun _ K=>?_;simp(disch:=omega) only[kd];apply K
  refine bC rfl ?_;refine aE (aK ?_);refine aD fun _ K=>?_;simp only[kd];apply K
  refine aD fun _ K=>?_;simp only[kd];apply K
  refine aE (jI (S:=⟨(jk::jk::.one (.ptr 2 0 0 0)::rN n::.one (.sl 18 0 0 n)::jk::jk::.raw (.bool neg)::.one (.ptr 8 0 0 0)::rN k::.raw (.int .i64 ((piv g n k k:Nat):Int))::j16 (j4 (j4 (j4 (.raw (.int .i64 (n:Int))::rN k::j16 (j16 (j16 (j16 (j16 (j16 (j4 (j4 (j4 ([])))))))))))))),Hm [(2,qB),(8,qo last),(18,gI 18 n n g)]⟩) ?_ ?_)
  ·refine aT (G:=QP n k g) (fun q=>⟨(jk::jk::.one (.ptr 2 0 0 0)::rN n::.one (.sl 18 0 0 n)::jk::jk::.raw (.bool neg)::.one (.ptr 8 0 0 0)::rN k::rN q.p::j16 (j4 (j4 (j4 (.raw (.int .i64 (n:Int))::rN k::j16 (j16 (j16 (j16 (j16 (j16 (j4 (j4 (j4 ([])))))))))))))),Hm [(2,qB),(8,qo last),(18,gI 18 n n g)]⟩) (fun q=>n-q.p) ⟨k,by omega,by omega,rfl⟩ ?_ ?_
   ·refine aF ⟨rfl,rfl,rfl,trivial⟩ ?_;simp[wk]
   rintro⟨p,hkp,hp,hpv⟩;simp only;by_cases hpn:p<n
   ·have g1:=bO (n:=n) (i:=p) 18 n hpn;have g2:=ee n g hpn;have g3:=aU (g p) hm;have hSg:=pA (g p k) ((sgz p k hpn hm).mono (by omega));by_cases h0:g p k=0
    ·rw[h0]at hSg g3;refine aE (aG [⟨11,_,_,_,hSg⟩] [] fun _ K=>?_);simp(disch:=omega) only[kd,tZ,sC,aa,ab,g1,g2,fZ,g3];apply K;refine aS rfl (aL ?_);refine aK ?_;refine aM fun _ K=>?_;simp(disch:=omega) only[kd,aa,aP];apply K
     refine⟨⟨p+1,by omega,by omega,?_⟩,by simp only;omega,aF ⟨rfl,rfl,rfl,trivial⟩ ?_⟩
     ·rw[<- hpv,qT hpn h0]
     simp[wk]
    have hs0:=El h0;refine aE (aG [⟨11,_,_,_,hSg⟩] [] fun _ K=>?_);simp(disch:=omega) only[kd,tZ,aa,ab,g1,g2,fZ,g3];apply K;refine aO rfl (bK ?_);show ca _ _;have hpe:piv g n k k=p:=by rw[<- hpv,qS hpn h0]
    refine aF ⟨rfl,rfl,rfl,trivial⟩ ?_;simp[wk,hpe]
   have hpe:piv g n k k=p:=by rw[<- hpv,nQ hpn];omega
   refine aE (aD fun _ K=>?_);simp(disch:=omega) only[kd,aa];apply K;refine aO rfl (bK ?_);show ca _ _;refine aF ⟨rfl,rfl,rfl,trivial⟩ ?_;simp[wk,hpe]
  have hpl:=x9 (f:=g) (n:=n) (k:=k) (n-k) k rfl;have hpn':=Cu (f:=g) (n:=n) (k:=k) (n-k) k rfl;generalize hpp:piv g n k k=p at*
  by_cases hpn:p=n
  ·rw[if_pos hpn]at hvk;refine aE (aD fun _ K=>?_);simp(disch:=omega) only[kd,aa];apply K;refine aS rfl ?_;refine aD fun _ K=>?_;simp(disch:=omega) only[kd,ab,aa];apply K
   refine bs.weak (eE 2) ?_;refine aI ⟨.inr rfl,aH rfl ?_ rfl⟩;rw[<- hv,hvk];simp(disch:=omega) only[kd,Tryz.results160,zH,ab,zO,yH,yQ,aa,tZ];simp[cj,ls]
  rw[if_neg hpn]at hvk;obtain⟨hkp,hpk0⟩:=hpn' (by omega);refine aE (aD fun _ K=>?_);simp(disch:=omega) only[kd,aa];apply K;refine aO rfl (aL ?_);show bs _ _ _ _;refine aE (aD fun _ K=>?_);simp only[kd,aa];apply K;refine jI (S:=⟨(jk::jk::.one (.ptr 2 0 0 0)::rN n::.one (.sl 18 0 0 n)::jk::jk::.raw (.bool (neg !=decide (k<p)))::.one (.ptr 8 0 0 0)::rN k::j16 (j4 (j4 (j4 (jk::rN n::rN k::j16 (j16 (j16 (j16 (j16 (j16 (j4 (j4 (j4 ([])))))))))))))),Hm [(2,qB),(8,qo last),(18,gI 18 n n (swp p k g))]⟩) ?_ ?_
  ·by_cases hlt:k<p
   ·have g1:=bO (n:=n) (i:=p) 18 n (by omega);have g2:=bO (n:=n) (i:=k) 18 n (by omega);refine bT rfl (fun _=>?_) (fun h=>by simp at h<;>omega);have g4:((gm 18 (ae n n)).set k [.sl 18 (p+1) 0 n])[p]?=some [.sl 18 (p+1) 0 n]:=by
     rw[List.getElem?_set_ne (by omega),g1]
    have hsw:=xX (d:=18) g (by omega:p<n) hm (by omega);rw[List.set_comm _ _ (by omega:p≠k)]at hsw;refine cK aZ (by kernel_rfl) fun _ K=>?_;simp(disch:=omega) only[kd,aa,ab,g1,g2,g4,ah,reduceCtorEq];apply K
    refine aM fun _ K=>?_;simp only[kd,aa];apply K
    refine(pi 18 (p+1) (k+1) (gI 18 n n (swp p k g)) hsw).trans (aF ⟨rfl,rfl,rfl,trivial⟩ ?_);simp[wk,CR,jA,oq,sw,hlt]
   have hpk:p=k:=by omega
   subst hpk;refine bT rfl (fun h=>by simp at h<;>omega) (fun _=>aL ?_);show ca _ _;rw[qh];refine aF ⟨rfl,rfl,rfl,trivial⟩ ?_;simp[wk]
  rw[KS,hpp]at hvk;have hkk:swp p k g k k≠0:=by
   unfold swp;by_cases h:k=p
   ·subst h;rw[if_pos rfl];exact hpk0
   rw[if_neg h,if_pos rfl];exact hpk0
  have hsz: ∀i j,i<n->j<n->Sz (swp p k g i j) b:=fun i j hi hj=>by
   unfold swp;split
   ·exact sgz k j hm hj
   split
   ·exact sgz p j (by omega) hj
   exact sgz i j hi hj
  generalize swp p k g=g' at*
  generalize(neg !=decide (k<p))=neg' at*
  have b2:=bO (n:=n) (i:=k) 18 n hm;have b4:=ee n g' hm;have b5:=aU (g' k) hm;refine aD fun _ K=>?_;simp(disch:=omega) only[kd,aa,ab,b2,b4,fZ,b5];apply K
  refine aE (aD fun _ K=>?_);simp(disch:=omega) only[kd,aa,aP];apply K;refine aT (G:=Qb n k) (fun q=>⟨(jk::jk::.one (.ptr 2 0 0 0)::rN n::.one (.sl 18 0 0 n)::jk::jk::.raw (.bool neg')::.one (.ptr 8 0 0 0)::rN k::jk::.one (.ptr 11 0 0 0)::rN q.i::j16 (j4 (j4 (jk::jk::rN n::rN k::j16 (j16 (j16 (j16 (j16 (j16 (j4 (j4 (j4 ([]))))))))))))),Hm [(2,qB),(8,qo last),(11,qo (g' k k)),(18,gI 18 n n (dY k last g' q.i (k+1)))]⟩) (fun q=>n-q.i) ⟨k+1,by omega,by omega⟩ ?_ ?_
  ·rw[Ea];refine aF ⟨rfl,rfl,rfl,rfl,trivial⟩ ?_;simp[wk]
  rintro⟨i,hki,hin⟩;simp only;by_cases hi:i<n
  ·refine aE (aD fun _ K=>?_);simp(disch:=omega) only[kd,aa];apply K;refine aS rfl (aL ?_);refine aE (aK ?_);refine aD fun _ K=>?_;simp(disch:=omega) only[kd,aa,aP];apply K
   refine aT (G:=Qb n k) (fun q=>⟨(jk::jk::.one (.ptr 2 0 0 0)::rN n::.one (.sl 18 0 0 n)::jk::jk::.raw (.bool neg')::.one (.ptr 8 0 0 0)::rN k::jk::.one (.ptr 11 0 0 0)::rN i::rN q.i::j16 (j4 (j4 (jk::rN n::rN k::j16 (j16 (j16 (j16 (j16 (j16 (j4 (j4 (j4 ([]))))))))))))),Hm [(2,qB),(8,qo last),(11,qo (g' k k)),(18,gI 18 n n (dY k last g' i q.i))]⟩) (fun q=>n-q.i) ⟨k+1,by omega,by omega⟩ ?_ ?_
   ·refine aF ⟨rfl,rfl,rfl,rfl,trivial⟩ ?_;simp[wk]
   rintro⟨j,hkj,hjn⟩;simp only;by_cases hj:j<n
   ·have a1:=bO (n:=n) (i:=i) 18 n hi;have a2:=bO (n:=n) (i:=k) 18 n hm;have a3:=ee n (dY k last g' i j) hi;have a4:=ee n (dY k last g' i j) hm;have a5:(bG n (dY k last g' i j k))[k]?=some (g' k k):=by rw[aU _ hm,iv _ _ (by omega)]
    have a6:(bG n (dY k last g' i j i))[j]?=some (g' i j):=by rw[aU _ hj,iv _ _ (by omega)]
    have a7:(bG n (dY k last g' i j i))[k]?=some (g' i k):=by rw[aU _ hm,iv _ _ (by omega)]
    have a8:(bG n (dY k last g' i j k))[j]?=some (g' k j):=by rw[aU _ hj,iv _ _ (by omega)]
    have z1:=hsz k k hm hm;have z2:=hsz i j hi hj;have z3:=hsz i k hi hm;have z4:=hsz k j hm hj;have c1:=xI (g' k k) (g' i j) (z1.mono (by omega)) (z2.mono (by omega));have c2:=xI (g' i k) (g' k j) (z3.mono (by omega)) (z4.mono (by omega));have c3:=Iw (g' k k*g' i j) (g' i k*g' k j) ((z1.mul z2).mono (by omega)) ((z3.mul z4).mono (by omega));have c4:=wq (g' k k*g' i j-g' i k*g' k j) last hl (((z1.mul z2).sub (z3.mul z4)).mono (by omega)) (slz.mono (by omega));refine aE (aD fun _ K=>?_);simp(disch:=omega) only[kd,aa];apply K;refine aS rfl (aL ?_);refine aE (aK ?_);refine bv aZ [⟨8,_,_,_,c1⟩,⟨23,_,_,_,c2⟩,⟨24,_,_,_,c3⟩] [] (by kernel_rfl) fun _ K=>?_;simp(disch:=omega) only[kd,tZ,aa,ab,a1,a3,fZ,a6,a7,a2,a4,a8,af];apply K
    refine d7 aZ [⟨7,_,_,_,c4⟩] [] (by kernel_rfl) fun _ K=>?_;simp(disch:=omega) only[kd,tZ,cZ,aa,ab,a1,a3,fZ,a6,jS];apply K
    show bs _ _ _ _;refine aM fun _ K=>?_;simp(disch:=omega) only[kd,aa,aP];apply K
    refine⟨⟨j+1,by omega,by omega⟩,by simp only;omega,aF ⟨rfl,rfl,rfl,?_,trivial⟩ ?_⟩
    ·show _::_=_::_;rw[cq fun a b _ _=>D9 last g' hki hkj a b]
    simp[wk]
   have hjn':j=n:=by omega
   subst hjn';refine aE (aD fun _ K=>?_);simp(disch:=omega) only[kd,aa];apply K;refine aO rfl (bK ?_);show bs _ _ _ _;refine aM fun _ K=>?_;simp(disch:=omega) only[kd,aa,aP];apply K
   refine⟨⟨i+1,by omega,by omega⟩,by simp only;omega,aF ⟨rfl,rfl,rfl,?_,trivial⟩ ?_⟩
   ·show _::_=_::_;rw[cq fun a b _ hb=>I2 last g' i a b hb]
   simp[wk]
  have hin':i=n:=by omega
  subst hin';have a2:=bO (n:=i) (i:=k) 18 i hm;have a4:=ee i (dY k last g' i (k+1)) hm;have a5:(bG i (dY k last g' i (k+1) k))[k]?=some (g' k k):=by rw[aU _ hm,iv _ _ (by omega)]
  refine aE (aD fun _ K=>?_);simp(disch:=omega) only[kd,aa];apply K;refine aO rfl (bK ?_);show bs _ _ _ _;refine aM fun _ K=>?_;simp(disch:=omega) only[kd,ab,aa];apply K
  show bs _ _ _ _;refine aM fun _ K=>?_;simp(disch:=omega) only[kd,aP];apply K
  refine⟨⟨k+1,I3 k last g',g' k k,neg',2*b+1,by omega,by rw[<- hvk,hv],hkk,by rw[Nat.pow_succ];omega,fun x y hx hy=>?_,(hsz k k hm hm).mono (by omega)⟩,by simp only;omega,aF ⟨rfl,rfl,?_,trivial⟩ ?_⟩
  ·unfold I3;split
   ·exact((((hsz k k hm hm).mul (hsz x y hx hy)).sub ((hsz x k hx hm).mul (hsz k y hm hy))).ediv last).mono (by omega)
   exact(hsz x y hx hy).mono (by omega)
  ·show _::_=_::_;rw[cq fun a b ha _=>I1 last g' a b ha]
  simp[wk]
 have hkn:k=n:=by omega
 subst hkn;rw[detG,if_neg hm]at hv;have h2k:=il (k:=k) hn;have hN:=Ou last (slz.mono (by omega));have hNo:=px last (slz.mono (by omega));refine aD fun _ K=>?_;simp(disch:=omega) only[kd];apply K
 refine bJ rfl ?_;show bs _ _ _ _;refine aE (aD fun _ K=>?_);simp only[kd];apply K;cases neg with
 |true=>
  rw[if_pos rfl]at hv;refine aS rfl ?_;refine aG [⟨1,_,_,_,hN⟩] [] fun _ K=>?_;simp(disch:=omega) only[kd,tZ,aa,ab];apply K
  rw[<- hv]
  (refine aI ⟨.inr rfl,aH rfl ?_ rfl⟩;simp(disch:=omega) only[kd,Tryz.results160,ab,aa,tZ])
 |false=>
  rw[if_neg (by simp)]at hv;refine aO rfl (aL ?_);show bs _ _ _ _;refine aG [⟨1,_,_,_,hNo⟩] [] fun _ K=>?_;simp(disch:=omega) only[kd,tZ,aa,ab];apply K
  rw[<- hv]
  (refine aI ⟨.inr rfl,aH rfl ?_ rfl⟩;simp(disch:=omega) only[kd,Tryz.results160,ab,aa,tZ])
abbrev oJ (z:Int) (b:Bool):TV:= .tup [(true,cZ z),(false,[.p (.raw (.bool b))])]
theorem Do:cZ 0=[.p (.raw (.bool false)),.p (.sl [])]:=by unfold cZ;rw[show(0:Int).natAbs=0 from rfl,cj];rfl
theorem Oz (n:Nat) (f:FF) (hn1:1<=n) (hn:n<=16) (hf: ∀i j,i<n->j<n->Sz (f i j) 1024):
  CallC Tryz.prog 139 [bE (bu n n f)] ⟨[],oJ (detF n f) true⟩:=by
 have hS:=uY (bu n n f);rw[fP (iu f hn1 hn hn1 hn),aV,eI f hn1]at hS;have hD:=uv n f hn1 hn hf;generalize detF n f=d at*
 refine aJ Tryz.func139 rfl (by kernel_rfl) ?_;rw[Tryz.ntmps139];refine aD fun _ K=>?_;simp(disch:=omega) only[kd,bE,ae,aa];apply K
 refine aG [⟨1,_,_,_,hS⟩] [] fun _ K=>?_;simp only[kd,bE,aa];apply K
 refine aE (aD fun _ K=>?_);simp(disch:=omega) only[kd,aa];apply K;refine aO rfl (aL ?_);show bs _ _ _ _;refine aG [⟨1,_,_,_,hD⟩] [] fun _ K=>?_;simp(disch:=omega) only[kd,bE,tZ,aa];apply K
 (refine aI ⟨.inr rfl,aH rfl ?_ rfl⟩;simp(disch:=omega) only[kd,Tryz.results139,aa,oJ,cZ])
theorem LP (n c:Nat) (f:FF) (hn1:1<=n) (hn:n<=16) (hc1:1<=c) (hc:c<=16) (hne:n≠c):
  CallC Tryz.prog 139 [bE (bu n c f)] ⟨[],oJ 0 false⟩:=by
 have hS:=uY (bu n c f);rw[fP (iu f hn1 hn hc1 hc),aV,eI f hn1]at hS;rw[oJ,Do];refine aJ Tryz.func139 rfl (by kernel_rfl) ?_;rw[Tryz.ntmps139];refine aD fun _ K=>?_;simp(disch:=omega) only[kd,bE,ae,aa];apply K
 refine aG [⟨1,_,_,_,hS⟩] [] fun _ K=>?_;simp only[kd,bE,aa];apply K
 refine aE (aD fun _ K=>?_);simp(disch:=omega) only[kd,aa];apply K;refine aS rfl ?_;refine aD fun _ K=>?_;simp(disch:=omega) only[kd,aa];apply K
 refine bs.weak (eE 2) ?_;refine aI ⟨.inr rfl,aH rfl ?_ rfl⟩;simp(disch:=omega) only[kd,Tryz.results139,zH,zO,yH,yQ,aa]
theorem OL (n:Nat) (f:FF) (hn1:1<=n) (hn:n<=16) (hf: ∀i j,i<n->j<n->Sz (f i j) 1024):
  CallC Tryz.prog 127 [bE (bu n n f)] ⟨[],oJ (detF n f) true⟩:=by
 have hS:=pf (bu n n f);rw[yx f hn1 hn]at hS;have hD:=f6 n f hn1 hn hf;generalize detF n f=d at*
 refine aJ Tryz.func127 rfl (by kernel_rfl) ?_;rw[Tryz.ntmps127];refine aD fun _ K=>?_;simp(disch:=omega) only[kd,bE,ae,aa];apply K
 refine aE (aG [⟨1,_,_,_,hS⟩] [] fun _ K=>?_);simp only[kd,bE,aa];apply K;refine aD fun _ K=>?_;simp only[kd];apply K
 refine aO rfl (aL ?_);show bs _ _ _ _;refine aG [⟨1,_,_,_,hD⟩] [] fun _ K=>?_;simp(disch:=omega) only[kd,bE,tZ,aa];apply K
 (refine aI ⟨.inr rfl,aH rfl ?_ rfl⟩;simp(disch:=omega) only[kd,Tryz.results127,aa,oJ,cZ])
theorem Me (n c:Nat) (f:FF) (hn1:1<=n) (hne:n≠c):
  CallC Tryz.prog 127 [bE (bu n c f)] ⟨[],oJ 0 false⟩:=by
 have hS:=pf (bu n c f);rw[J3 f hn1 hne]at hS;rw[oJ,Do];refine aJ Tryz.func127 rfl (by kernel_rfl) ?_;rw[Tryz.ntmps127];refine aD fun _ K=>?_;simp(disch:=omega) only[kd,bE,ae,aa];apply K
 refine aE (aG [⟨1,_,_,_,hS⟩] [] fun _ K=>?_);simp only[kd,bE,aa];apply K;refine aD fun _ K=>?_;simp only[kd];apply K
 refine aS rfl ?_;refine aD fun _ K=>?_;simp(disch:=omega) only[kd,aa];apply K
 refine bs.weak (eE 2) ?_;refine aI ⟨.inr rfl,aH rfl ?_ rfl⟩;simp(disch:=omega) only[kd,Tryz.results127,zH,zO,yH,yQ,aa]
theorem Hy (a:Int):decide (oh a 1=0)=decide (a=1):=by
 unfold oh;split
 ·have:a≠1:=by omega
  simp[this]
 split<;>simp_all
theorem Mh (n:Nat) (f:FF) (hn1:1<=n) (hn:n<=16) (hf: ∀i j,i<n->j<n->Sz (f i j) 1024):
  CallC Tryz.prog 98 [bE (bu n n f)] ⟨[],.raw (.bool (decide ((dk f n).natAbs=1)))⟩:=by
 have hD:=OL n f hn1 hn hf;have hsz:=lA hn hf;have hab:=tn n f;rw[<- hab];generalize detF n f=d at*
 have hA:=Df d (hsz.mono (by omega));have hS:=fQ 1 (by omega) (by omega);have hC:=sI d.natAbs 1 ((hsz.le (x:=(d.natAbs:Int)) (by simp)).mono (by omega)) (lZ (by omega));have hc1:=Hy d.natAbs;have hc2:decide (((d.natAbs:Nat):Int)=1)=decide (d.natAbs=1):=by
  by_cases h:d.natAbs=1<;>simp[h]<;>omega
 rw[hc2]at hc1;refine aJ Tryz.func98 rfl (by kernel_rfl) ?_;rw[Tryz.ntmps98];refine aD fun _ K=>?_;simp only[kd,bE,ae];apply K
 refine aG [⟨1,_,_,_,hD⟩] [] fun _ K=>?_;simp(disch:=omega) only[kd,bE,oJ,cZ,aa];apply K
 refine aG [⟨3,_,_,_,hA⟩,⟨4,_,_,_,hS⟩,⟨5,_,_,_,hC⟩] [] fun _ K=>?_;simp(disch:=omega) only[kd,tZ,aa,af,hc1];apply K
 (refine aI ⟨.inr rfl,aH rfl ?_ rfl⟩;simp(disch:=omega) only[kd,Tryz.results98])
theorem Jy (n c:Nat) (f:FF) (hn1:1<=n) (hne:n≠c):
  CallC Tryz.prog 98 [bE (bu n c f)] ⟨[],.raw (.bool false)⟩:=by
 have hD:=Me n c f hn1 hne;refine aJ Tryz.func98 rfl (by kernel_rfl) ?_;rw[Tryz.ntmps98];refine aD fun _ K=>?_;simp only[kd,bE,ae];apply K
 refine aG [⟨1,_,_,_,hD⟩] [] fun _ K=>?_;simp(disch:=omega) only[kd,bE,oJ,cZ,aa];apply K
 refine aD fun _ K=>?_;simp(disch:=omega) only[kd,aa];apply K
 (refine aI ⟨.inr rfl,aH rfl ?_ rfl⟩;simp(disch:=omega) only[kd,Tryz.results98])
theorem A1 {n:Nat} (f:FF) (hn1:1<=n) (hn:n<=8):vn (bu n n f)=decide ((detF n f).natAbs=1):=by
 rw[tn];by_cases h:(dk f n).natAbs=1
 ·rw[vo ((sQ f hn1 hn).2 h)];simp[h]
 rw[l7 (fun h'=>h ((sQ f hn1 hn).1 h'))];simp[h]
theorem A0 {n c:Nat} (f:FF) (hn:8<n):vn (bu n c f)=false:=l7 fun h=>by
 have:=h.2.2.1;rw[aV]at this;omega
theorem EB {n c:Nat} (f:FF) (hn1:1<=n) (hn:n≠c):vn (bu n c f)=false:=l7 fun h=>by
 have:=h.2.1;rw[aV,eI f hn1]at this;omega
theorem Jm (n c:Nat) (f:FF) (hn1:1<=n) (hn:n<=16) (hc1:1<=c) (hc:c<=16) (hf: ∀i j,GG (f i j)):
  CallC Tryz.prog 111 [bi (bu n c f)] ⟨[],.raw (.bool (vn (bu n c f)))⟩:=by
 have hF:=rJ n c f hn1 hn hc1 hc (fun i j _ _=>hf i j);have hml:=aV n c f;by_cases h8:8<n
 ·rw[A0 f h8];refine aJ Tryz.func111 rfl (by kernel_rfl) ?_;rw[Tryz.ntmps111];refine aD fun _ K=>?_;simp only[kd,bi,ae];apply K
  refine aG [⟨1,_,_,_,hF⟩] [] fun _ K=>?_;simp only[kd,bi,yK,aa];apply K
  refine aE (aD fun _ K=>?_);simp(disch:=omega) only[kd,aa,hml];apply K;refine aS rfl ?_;refine aD fun _ K=>?_;simp only[kd];apply K
  (refine aI ⟨.inr rfl,aH rfl ?_ rfl⟩;simp(disch:=omega) only[kd,Tryz.results111])
 by_cases hnc:n=c
 ·subst hnc;have hD:=Oz n f hn1 hn (fun i j _ _=>(hf i j).sz (by omega));have hsz:=lA hn (fun i j _ _=>(hf i j).sz (k:=1024) (by omega));rw[A1 f hn1 (by omega)];generalize detF n f=d at*
  have hI:=zI d (hsz.mono (by omega));unfold iN at hI;by_cases hd1:d=1
  ·subst hd1;rw[if_pos (by omega)]at hI;refine aJ Tryz.func111 rfl (by kernel_rfl) ?_;rw[Tryz.ntmps111];refine aD fun _ K=>?_;simp only[kd,bi,ae];apply K
   refine aG [⟨1,_,_,_,hF⟩] [] fun _ K=>?_;simp only[kd,bi,yK,aa];apply K
   refine aE (aD fun _ K=>?_);simp(disch:=omega) only[kd,aa,hml];apply K;refine aO rfl (aL ?_);show bs _ _ _ _;refine aG [⟨1,_,_,_,hD⟩] [] fun _ K=>?_;simp(disch:=omega) only[kd,bE,oJ,cZ,aa];apply K
   refine aG [⟨1,_,_,_,hI⟩] [] fun _ K=>?_;simp(disch:=omega) only[kd,tZ,aa];apply K
   refine aD fun _ K=>?_;simp(disch:=omega) only[kd,aa,reduceCtorEq];apply K
   (refine aI ⟨.inr rfl,aH rfl ?_ rfl⟩;simp(disch:=omega) only[kd,Tryz.results111])
  by_cases hd2:d= -1
  ·subst hd2;rw[if_pos (by omega)]at hI;refine aJ Tryz.func111 rfl (by kernel_rfl) ?_;rw[Tryz.ntmps111];refine aD fun _ K=>?_;simp only[kd,bi,ae];apply K
   refine aG [⟨1,_,_,_,hF⟩] [] fun _ K=>?_;simp only[kd,bi,yK,aa];apply K
   refine aE (aD fun _ K=>?_);simp(disch:=omega) only[kd,aa,hml];apply K;refine aO rfl (aL ?_);show bs _ _ _ _;refine aG [⟨1,_,_,_,hD⟩] [] fun _ K=>?_;simp(disch:=omega) only[kd,bE,oJ,cZ,aa];apply K
   refine aG [⟨1,_,_,_,hI⟩] [] fun _ K=>?_;simp(disch:=omega) only[kd,tZ,aa];apply K
   refine aD fun _ K=>?_;simp(disch:=omega) only[kd,aa,reduceCtorEq];apply K
   (refine aI ⟨.inr rfl,aH rfl ?_ rfl⟩;simp(disch:=omega) only[kd,Tryz.results111])
  have hno:decide (d.natAbs=1)=false:=decide_eq_false (by omega);rw[hno];by_cases hfit: -9223372036854775808<=d/\d<=9223372036854775807
  ·rw[if_pos hfit]at hI;refine aJ Tryz.func111 rfl (by kernel_rfl) ?_;rw[Tryz.ntmps111];refine aD fun _ K=>?_;simp only[kd,bi,ae];apply K
   refine aG [⟨1,_,_,_,hF⟩] [] fun _ K=>?_;simp only[kd,bi,yK,aa];apply K
   refine aE (aD fun _ K=>?_);simp(disch:=omega) only[kd,aa,hml];apply K;refine aO rfl (aL ?_);show bs _ _ _ _;refine aG [⟨1,_,_,_,hD⟩] [] fun _ K=>?_;simp(disch:=omega) only[kd,bE,oJ,cZ,aa];apply K
   refine aG [⟨1,_,_,_,hI⟩] [] fun _ K=>?_;simp(disch:=omega) only[kd,tZ,aa];apply K
   refine aD fun _ K=>?_;simp(disch:=omega) only[kd,aa];apply K
   (refine aI ⟨.inr rfl,aH rfl ?_ rfl⟩;simp(disch:=omega) only[kd,Tryz.results111])
  rw[if_neg hfit]at hI;refine aJ Tryz.func111 rfl (by kernel_rfl) ?_;rw[Tryz.ntmps111];refine aD fun _ K=>?_;simp only[kd,bi,ae];apply K
  refine aG [⟨1,_,_,_,hF⟩] [] fun _ K=>?_;simp only[kd,bi,yK,aa];apply K
  refine aE (aD fun _ K=>?_);simp(disch:=omega) only[kd,aa,hml];apply K;refine aO rfl (aL ?_);show bs _ _ _ _;refine aG [⟨1,_,_,_,hD⟩] [] fun _ K=>?_;simp(disch:=omega) only[kd,bE,oJ,cZ,aa];apply K
  refine aG [⟨1,_,_,_,hI⟩] [] fun _ K=>?_;simp(disch:=omega) only[kd,tZ,aa];apply K
  refine aD fun _ K=>?_;simp(disch:=omega) only[kd,aa,reduceCtorEq];apply K
  (refine aI ⟨.inr rfl,aH rfl ?_ rfl⟩;simp(disch:=omega) only[kd,Tryz.results111])
 rw[EB f hn1 hnc];have hD:=LP n c f hn1 hn hc1 hc hnc;have hI:=zI 0 ((sD 1).mono (by omega));rw[iN,if_pos (by omega)]at hI;refine aJ Tryz.func111 rfl (by kernel_rfl) ?_;rw[Tryz.ntmps111];refine aD fun _ K=>?_;simp only[kd,bi,ae];apply K
 refine aG [⟨1,_,_,_,hF⟩] [] fun _ K=>?_;simp only[kd,bi,yK,aa];apply K
 refine aE (aD fun _ K=>?_);simp(disch:=omega) only[kd,aa,hml];apply K;refine aO rfl (aL ?_);show bs _ _ _ _;refine aG [⟨1,_,_,_,hD⟩] [] fun _ K=>?_;simp(disch:=omega) only[kd,bE,oJ,cZ,aa];apply K
 refine aG [⟨1,_,_,_,hI⟩] [] fun _ K=>?_;simp(disch:=omega) only[kd,tZ,aa];apply K
 refine aD fun _ K=>?_;simp(disch:=omega) only[kd,aa];apply K
 (refine aI ⟨.inr rfl,aH rfl ?_ rfl⟩;simp(disch:=omega) only[kd,Tryz.results111])
theorem OI (M:List (List Int)) (hM:MI M):CallC Tryz.prog 111 [bi M] ⟨[],.raw (.bool (vn M))⟩:=by
 by_cases hs:xe M
 ·have e:=rZ hs;have h1:=hs.1;have h2:=hs.2.1;have h3:=hs.2.2 _ (List.mem_of_getElem? (gk hs.1));have hf:=fun i j=>hM.ent i j
  rw[e];exact Jm _ _ _ h1 h2 h3.1 h3.2.1 hf
 have hF:=x7 M hs;rw[l7 (fun h=>hs h.1)];refine aJ Tryz.func111 rfl (by kernel_rfl) ?_;rw[Tryz.ntmps111];refine aD fun _ K=>?_;simp only[kd,bi,ae];apply K
 refine aG [⟨1,_,_,_,hF⟩] [] fun _ K=>?_;simp only[kd,bi,Im,aa];apply K
 refine aE (aD fun _ K=>?_);simp(disch:=omega) only[kd,aa,reduceCtorEq];apply K;refine aS rfl ?_;refine aD fun _ K=>?_;simp only[kd];apply K
 (refine aI ⟨.inr rfl,aH rfl ?_ rfl⟩;simp(disch:=omega) only[kd,Tryz.results111])
theorem Jz (n c:Nat) (f:FF) (hn1:1<=n) (hn:n<=16) (hc1:1<=c) (hc:c<=16) (hf: ∀i j,GG (f i j)):
  CallC Tryz.prog 50 [bi (bu n c f)] ⟨[],.raw (.bool (vn (bu n c f)))⟩:=by
 have hF:=ox n c f hn1 hn hc1 hc (fun i j _ _=>hf i j);have hml:=aV n c f;by_cases h8:8<n
 ·rw[A0 f h8];refine aJ Tryz.func50 rfl (by kernel_rfl) ?_;rw[Tryz.ntmps50];refine aD fun _ K=>?_;simp only[kd,bi,ae];apply K
  refine aG [⟨1,_,_,_,hF⟩] [] fun _ K=>?_;simp only[kd,bi,yK,aa];apply K
  refine aD fun _ K=>?_;simp(disch:=omega) only[kd,aa,hml];apply K
  (refine aI ⟨.inr rfl,aH rfl ?_ rfl⟩;simp(disch:=omega) only[kd,Tryz.results50])
 by_cases hnc:n=c
 ·subst hnc;have hU:=Mh n f hn1 hn (fun i j _ _=>(hf i j).sz (by omega));rw[A1 f hn1 (by omega),tn];generalize decide ((dk f n).natAbs=1)=b at*
  refine aJ Tryz.func50 rfl (by kernel_rfl) ?_;rw[Tryz.ntmps50];refine aD fun _ K=>?_;simp only[kd,bi,ae];apply K
  refine aG [⟨1,_,_,_,hF⟩] [] fun _ K=>?_;simp only[kd,bi,yK,aa];apply K
  refine aG [⟨8,_,_,_,hU⟩] [] fun _ K=>?_;simp(disch:=omega) only[kd,bE,aa,hml];apply K
  (refine aI ⟨.inr rfl,aH rfl ?_ rfl⟩;simp(disch:=omega) only[kd,Tryz.results50])
 rw[EB f hn1 hnc];have hU:=Jy n c f hn1 hnc;refine aJ Tryz.func50 rfl (by kernel_rfl) ?_;rw[Tryz.ntmps50];refine aD fun _ K=>?_;simp only[kd,bi,ae];apply K
 refine aG [⟨1,_,_,_,hF⟩] [] fun _ K=>?_;simp only[kd,bi,yK,aa];apply K
 refine aG [⟨8,_,_,_,hU⟩] [] fun _ K=>?_;simp(disch:=omega) only[kd,bE,aa,hml];apply K
 (refine aI ⟨.inr rfl,aH rfl ?_ rfl⟩;simp(disch:=omega) only[kd,Tryz.results50])
theorem OM (M:List (List Int)) (hM:MI M):CallC Tryz.prog 50 [bi M] ⟨[],.raw (.bool (vn M))⟩:=by
 by_cases hs:xe M
 ·have e:=rZ hs;have h1:=hs.1;have h2:=hs.2.1;have h3:=hs.2.2 _ (List.mem_of_getElem? (gk hs.1));have hf:=fun i j=>hM.ent i j
  rw[e];exact Jz _ _ _ h1 h2 h3.1 h3.2.1 hf
 have hF:=rr M hs;rw[l7 (fun h=>hs h.1)];refine aJ Tryz.func50 rfl (by kernel_rfl) ?_;rw[Tryz.ntmps50];refine aD fun _ K=>?_;simp only[kd,bi,ae];apply K
 refine aG [⟨1,_,_,_,hF⟩] [] fun _ K=>?_;simp only[kd,bi,Im,aa];apply K
 refine aD fun _ K=>?_;simp(disch:=omega) only[kd,aa];apply K
 (refine aI ⟨.inr rfl,aH rfl ?_ rfl⟩;simp(disch:=omega) only[kd,Tryz.results50])
open Classical in
noncomputable def AU (M t:List (List Int)):CallRes:=if t.length=M.length/\mf t then tM M (jp t)else⟨de 0 0 0 (fun _ _=>0),lE 0 false⟩
theorem vh {M t:List (List Int)} (h: ¬(t.length=M.length/\mf t)):AU M t=⟨de 0 0 0 (fun _ _=>0),lE 0 false⟩:=if_neg h
theorem re {M t:List (List Int)} (h:t.length=M.length/\mf t):AU M t=tM M (jp t):=if_pos h
theorem BX (M l:List (List Int)): ∃k b F,tM M l=⟨de 0 k k F,lE k b⟩/\k<=l.length:=by
 by_cases h:Pj M l
 ·exact⟨_,_,_,nA h,Nat.le_refl _⟩
 exact⟨_,_,_,tN h,Nat.zero_le _⟩
theorem wb (t:List (List Int)):(jp t).length=t.length:=aV _ _ _
theorem x8 (M t:List (List Int)) (ht:MI t):CallC Tryz.prog 71 [bi M,bi t] (AU M t):=by
 by_cases hlen:t.length=M.length
 ·have cU:=OI t ht;by_cases hu:mf t
  ·rw[vo hu]at cU;have e:=hu.eq;have hcols:jp t=bu t.length t.length (trF (ent t)):=rfl;have hn8:=hu.2.2.1;have hn1:=hu.1.1;have cG:=Ef M (jp t) (by rw[wb];omega);rw[re ⟨hlen,hu⟩];obtain⟨k,bb,V,hk,_⟩:=BX M (jp t);rw[hk]at cG⊢;clear hk;rw[hcols]at cG;clear hcols hu;have hlM:=hlen.symm;generalize ent t=g at*
   generalize hnn:t.length=n at*
   clear ht;subst e;have hml:=aV n n g;refine aJ Tryz.func71 rfl (by kernel_rfl) ?_;rw[Tryz.ntmps71];refine aD fun _ K=>?_;simp only[kd,bi,aa,ae];apply K
   refine aE (aG [⟨7,_,_,_,cU⟩] [] fun _ K=>?_);simp(disch:=omega) only[kd,bi,aa,hml,hlM];apply K;refine aO rfl (aL ?_);show bs _ _ _ _;refine aD fun _ K=>?_;simp(disch:=omega) only[kd,aa,hml];apply K
   refine aE (aD fun _ K=>?_);simp only[kd,aa];apply K;refine aT (G:=jD n) (fun q=>⟨(bi M::bi (bu n n g)::j4 (.one (.sl 22 0 0 n)::j16 (jk::rN n::rN q.i::j16 (j4 (j4 (j4 ([]))))))),Hm [(22,kI 22 n n q.i (trF g))]⟩) (fun q=>n-q.i) ⟨0,by omega⟩ ?_ ?_
   ·refine aF ⟨?_,trivial⟩ ?_
    ·show[_]=_;simp[kI,gm,bu]
    simp[wk]
   rintro⟨i,hi⟩;simp only;by_cases hm:i<n
   ·have hmi:=aV i n (trF g);have hsl:(gm 22 (ae i n)).length=i:=by rw[ch,List.length_replicate]
    have hrl:((bu i n (trF g)).map jf).length=i:=by rw[List.length_map,hmi]
    refine aD fun _ K=>?_;simp(disch:=omega) only[kd,bi];apply K
    refine bC rfl ?_;refine aE (aK ?_);refine aD fun _ K=>?_;simp only[kd];apply K
    refine aD fun _ K=>?_;simp only[kd,aa,hml];apply K
    refine aT (G:=jD n) (fun q=>⟨(bi M::bi (bu n n g)::j4 (.one (.sl 22 0 0 n)::rN i::j16 (.raw (.int .i64 (n:Int))::rN i::jk::jk::bi (bu n n g)::rN n::rN q.i::j16 (j4 (jk::jk::jk::[]))))),Hm [(22,Or 22 n n (trF g) i q.i)]⟩) (fun q=>n-q.i) ⟨0,by omega⟩ ?_ ?_
    ·refine aF ⟨rfl,trivial⟩ ?_;simp[wk]
    rintro⟨j,hj⟩;simp only;by_cases hm2:j<n
    ·have hr:=bD n g hm2;have hjr:=aU (g j) hm;cases j with
     |zero=>
      rw[Or,DQ (trF g) hm];refine aD fun _ K=>?_;simp(disch:=omega) only[kd,bi];apply K
      refine bC rfl ?_;refine aE (aK ?_);refine aD fun _ K=>?_;simp(disch:=omega) only[kd,aa,hr,fR];apply K
      refine gz aZ (by kernel_rfl) fun _ K=>?_;simp(disch:=omega) only[kd,aa,i4 hsl,hjr,Nat.reduceMul,ah,ab,i5 hsl,hmi,af];apply K
      show bs _ _ _ _;refine aM fun _ K=>?_;simp(disch:=omega) only[kd,aP];apply K
      refine⟨⟨1,by omega⟩,by simp only;omega,aF ⟨?_,trivial⟩ ?_⟩
      ·rfl
      simp[wk]
     |succ j=>
      have h01:(0==i+1)=false:=by simp
      rw[Or,LE];refine aD fun _ K=>?_;simp(disch:=omega) only[kd,bi];apply K
      refine bC rfl ?_;refine aE (aK ?_);refine aD fun _ K=>?_;simp(disch:=omega) only[kd,aa,hr,fR];apply K
      refine gz aZ (by kernel_rfl) fun _ K=>?_;simp(disch:=omega) only[kd,aa,jf,i4 hsl,hjr,Nat.reduceMul,ah,i4 hrl,bz,List.map_append,u7,List.map_replicate,AC,zS,i5 hrl,h01,i5 hsl,reduceCtorEq,List.length_append,hrl];apply K
      show bs _ _ _ _;refine aM fun _ K=>?_;simp(disch:=omega) only[kd,aP];apply K
      refine⟨⟨j+1+1,by omega⟩,by simp only;omega,aF ⟨?_,trivial⟩ ?_⟩
      ·show _=LE 22 n n (trF g) i (j+1);rw[LE,jf,nZ (j+1)];rfl
      simp[wk]
    have hjc:j=n:=by omega
    subst hjc;refine aD fun _ K=>?_;simp(disch:=omega) only[kd,bi];apply K
    refine bJ rfl ?_;show bs _ _ _ _;rw[Iu _ (by omega) hm];refine aM fun _ K=>?_;simp(disch:=omega) only[kd,aP];apply K
    refine⟨⟨i+1,by omega⟩,by simp only;omega,aF ⟨rfl,trivial⟩ ?_⟩;simp[wk]
   have hin:i=n:=by omega
   subst hin;refine aD fun _ K=>?_;simp(disch:=omega) only[kd,bi];apply K
   refine bJ rfl ?_;show bs _ _ _ _;rw[mG];refine bs.weak ((bW 22 (dj (d:=22) (n:=i) (c:=i) (f:=trF g) rfl)).trans (aF (tm:=(bi M::j4 (jk::bi (bu i i (trF g))::j16 (j16 (j4 (j4 (j4 (jk::jk::jk::[])))))))) (l:=[]) trivial (by simp[wk];exact⟨rfl,(ky (H:=Hm [(22,de 22 i i (trF g))]) (d:=22) (n:=i) (c:=i) (f:=trF g) rfl).symm⟩))) ?_;refine aG [⟨2,_,_,_,cG⟩] [] fun _ K=>?_;simp only[kd,bi,lE,aa];apply K
   refine aI ⟨.inr rfl,CB (d:=51) (c:=k) (F:=V) ?_ ?_ (by decide)⟩
   ·exact cx 0 51 _ _ _
   simp(disch:=omega) only[kd,Tryz.results71]
  rw[l7 hu]at cU;rw[vh (fun h=>hu h.2)];refine aJ Tryz.func71 rfl (by kernel_rfl) ?_;rw[Tryz.ntmps71];refine aD fun _ K=>?_;simp only[kd,bi,aa,ae];apply K
  refine aE (aG [⟨7,_,_,_,cU⟩] [] fun _ K=>?_);simp(disch:=omega) only[kd,bi,aa,hlen];apply K;refine aS rfl ?_;refine aD fun _ K=>?_;simp only[kd];apply K
  refine aI ⟨.inr rfl,uK rfl rfl ?_⟩;simp(disch:=omega) only[kd,Tryz.results71]
 rw[vh (fun h=>hlen h.1)];refine aJ Tryz.func71 rfl (by kernel_rfl) ?_;rw[Tryz.ntmps71];refine aD fun _ K=>?_;simp only[kd,bi,aa,ae];apply K
 refine aE (aD fun _ K=>?_);simp(disch:=omega) only[kd,aa,reduceCtorEq];apply K;refine aS rfl ?_;refine aD fun _ K=>?_;simp only[kd];apply K
 refine aI ⟨.inr rfl,uK rfl rfl ?_⟩;simp(disch:=omega) only[kd,Tryz.results71]
end Go.Proofs.YtfgeomlagfomgaaGreatDoor
