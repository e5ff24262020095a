/-
  Part 24 of a proof (walks and plain facts).
-/
import Derived.Test.YtfgeomlagfomgaaGreatDoorR22
set_option linter.all false
set_option maxRecDepth 100000
set_option maxHeartbeats 64000000
open Nat renaming reduceAdd → aa
open List renaming replicate → ae
namespace Go.Proofs.YtfgeomlagfomgaaGreatDoor
open Go.RowKit
section
section
variable (n:Nat) (h B:FF) (hn1:1<=n) (hn:n<=4) (hr:RedR h n) (hB: ∀a,a<n->Bo n h (B a)) (hs: ∀k,k+1<n->nrm n h (B k)<=nrm n h (B (k+1)))
include hn1 hn hr hB hs
theorem FG:CallC Tryz.prog 151 [slI (mat n n B),.raw (.int .i64 0),.raw (.int .i64 (n:Int)),Ox n h] ⟨[],.tup []⟩:=by
 have hml:=aU n n B;refine aI Tryz.func151 rfl (by kernel_rfl) ?_;rw[Tryz.ntmps151];refine aC fun _ K=>?_;simp(disch:=omega) only[kd,aa,slI,ae,aO];apply K
 refine aT (G:=QT n) (fun g=>⟨(slI (mat n n B)::.raw (.int .i64 0)::rN n::.fn 92 [.p (.ptr (qM (mat n n h)))]::j4 (.raw (.int .i64 (g.i:Int))::j16 (j16 (j4 (j4 (j4 ([]))))))),Hm []⟩) (fun g=>n-g.i) ⟨1,by omega,hn1⟩ ?_ ?_
 ·refine aE trivial ?_;simp[wk]
 rintro⟨i,hi1,hi⟩;simp only;by_cases hm:i<n
 ·obtain⟨j,rfl⟩: ∃j,i=j+1:=⟨i-1,by omega⟩;have hC:=Oy hn1 hn hr (hB (j+1) hm) (hB j (by omega));have hneg: ¬nrm n h (B (j+1))-nrm n h (B j)<0:=by have:=hs j hm;omega
  have e0:IntKind.i64.wrap (((j+1:Nat):Int)-1)=(j:Int):=by rw[show((j+1:Nat):Int)-1=(j:Int) by omega];exact aO (by omega) (by omega)
  have gt:(0:Int)<((j+1:Nat):Int):=by omega
  have m1:=bs n B hm;have m2:=bs n B (show j<n by omega);refine aD (aC fun _ K=>?_);simp(disch:=omega) only[kd,aa,slI];apply K;refine aS rfl (aK ?_);refine aD (aJ ?_);refine aC fun _ K=>?_;simp only[kd];apply K
  refine aT (G:=Unit) (fun _=>⟨(slI (mat n n B)::.raw (.int .i64 0)::rN n::.fn 92 [.p (.ptr (qM (mat n n h)))]::j4 (.raw (.int .i64 ((j+1:Nat):Int))::.raw (.int .i64 ((j+1:Nat):Int))::j16 (j16 (j4 (j4 (jk::jk::jk::[])))))),Hm []⟩) (fun _=>0) () ?_ ?_
  ·refine aE trivial ?_;simp[wk]
  intro _;refine aD (bo aW [⟨14,_,_,_,hC⟩] [] (by kernel_rfl) fun _ K=>?_);simp(disch:=omega) only[kd,iC,aa,slI,gt,m1,fR,e0,m2,hneg];apply K;refine aN rfl (bE ?_);show bf _ _ _ _;refine aL fun _ K=>?_;simp(disch:=omega) only[kd,aa,aO];apply K
  refine⟨⟨j+1+1,by omega,by omega⟩,by simp only;omega,aE trivial ?_⟩;simp[wk]
 have hin:i=n:=by omega
 subst hin;refine aD (aC fun _ K=>?_);simp(disch:=omega) only[kd,aa,slI];apply K;refine aN rfl (bE ?_);exact⟨.inl rfl,aG rfl rfl rfl⟩
theorem Kn:CallC Tryz.prog 123 [slI (mat n n B),.raw (.int .i64 (n:Int)),Ox n h] ⟨[],.tup []⟩:=by
 have hI:=FG n h B hn1 hn hr hB hs;refine aI Tryz.func123 rfl (by kernel_rfl) ?_;rw[Tryz.ntmps123];refine aC fun _ K=>?_;simp only[kd,slI,aa,ae];apply K
 refine aC fun _ K=>?_;simp only[kd,aa];apply K
 refine aD (aT (G:=Unit) (fun _=>⟨(slI (mat n n B)::rN n::.fn 92 [.p (.ptr (qM (mat n n h)))]::jk::jk::jk::.raw (.int .i64 20)::.raw (.int .i64 0)::.raw (.int .i64 20)::j16 (j16 (j16 (j4 (jk::jk::[]))))),Hm []⟩) (fun _=>0) () ?_ ?_)
 ·refine aE trivial ?_;simp[wk]
 intro _;refine aD (aC fun _ K=>?_);simp(disch:=omega) only[kd,aa,slI];apply K;refine aN rfl (bE ?_);show bf _ _ _ _;refine aF [⟨4,_,_,_,hI⟩] [] fun _ K=>?_;simp only[kd,slI,aa];apply K
 refine aT (G:=Unit) (fun _=>⟨(jk::rN n::j4 (.raw (.int .i64 20)::j16 (j16 (j16 (j4 (j4 ([]))))))),Hm []⟩) (fun _=>0) () ?_ ?_
 ·refine aE trivial ?_;simp[wk]
 intro _;refine aD (aC fun _ K=>?_);simp(disch:=omega) only[kd,aa];apply K;refine aN rfl (bE ?_);exact⟨.inl rfl,aG rfl rfl rfl⟩
theorem yL:CallC Tryz.prog 91 [slI (mat n n B),Ox n h] ⟨[],.tup []⟩:=by
 have hI:=Kn n h B hn1 hn hr hB hs;have hml:=aU n n B;refine aI Tryz.func91 rfl (by kernel_rfl) ?_;rw[Tryz.ntmps91];refine jx [⟨4,_,_,_,hI⟩] [] fun _ K=>?_;simp only[kd,slI,aa,ae,hml];apply K
 exact⟨.inl rfl,aG rfl rfl rfl⟩
end
theorem Gr:jl ⟨[],.tup []⟩:=⟨rfl,fun o ho=>by simp at ho⟩
theorem Ic {ops:Array Oper} {m d:Nat} {s:AS} (hd:cwD ops m=some d):GV ops m ⟨[],.tup []⟩ s=s.put (some d) (.tup []):=by
 unfold GV;rw[hd];rfl
theorem Cn (n:Nat) (h:FF) (hn1:1<=n) (hn:n<=4) (hr:RedR h n) (hs: ∀k,k+1<n->nrm n h (idF k)<=nrm n h (idF (k+1))) (hv:GR n (gmB n h idF)=none):
  CallG Tryz.prog 0 138 46 [slI (mat n n h)] je ⟨mxI 0 n n idF,.one (.sl 0 0 0 n)⟩:=by
 have hS:InB2 n h 262144 idF:=InB2.one hn1 (by omega) hr;have cM:=yL n h idF hn1 hn hr hS.nr hs;have cV:=rO n (gmB n h idF) hn1 hn fun i j hi hj=>by
  have:=mM hr.pd hS hi hj 262144 (by decide);omega
 have eT:vJ n (gmB n h idF)= .tup [(false,[.p (.raw (.int .i64 0))]),(true,a4 fun _=>0),(false,[.p (.raw (.bool false))])]:=by unfold vJ;rw[hv]
 rw[eT]at cV;clear hv eT hs;have hml:=aU n n h;refine dq Tryz.func46 rfl (by kernel_rfl) ?_;rw[Tryz.ntmps46];refine aM fun _ K=>?_;simp(disch:=omega) only[kd,slI,ae];apply K
 refine de.weak ((px 1 1 (cs:=qM (mat n n h)) rfl rfl).trans (aE (tm:=(jk::.one (.p (.ptr (qM (mat n n h))))::j16 (j16 (j16 (j16 (j16 (j4 (jk::jk::[])))))))) (l:=[]) trivial (by simp[wk,fD,eG]))) ?_;refine aM fun _ K=>?_;simp(disch:=omega) only[kd,aa,hml];apply K
 refine bx (aM fun _ K=>?_);simp only[kd,aa];apply K;refine fq (G:=jP n) (fun g=>⟨(jk::.one (.p (.ptr (qM (mat n n h))))::jk::.one (.sl 17 0 0 n)::j4 (j4 (j4 (jk::jk::jk::rN n::rN g.i::j16 (j16 (j16 (j16 (jk::jk::jk::[])))))))),Hm [(17,kI 17 n n g.i (qz g.i))]⟩) (fun _=>je) (fun g=>n-g.i) ⟨0,by omega⟩ ?_ rfl ?_
 ·refine aE ⟨?_,trivial⟩ ?_
  ·show[_]=_;simp[kI,fO,mat]
  simp[wk]
 rintro⟨i,hi⟩;simp only;by_cases hm:i<n
 ·have k1:=oV (i:=i) (n:=n) 17 n hm;have k2:=i4 (i:=i) (n:=n) 17 n hi;have k3:=aU i n (qz i);have k4:=lL (i:=i) (n:=n) (c:=n) 17 (qz i) hm (fun j hj=>by unfold qz;rw[if_neg (by omega)]);have k5:=qW (i:=i+1) (k:=i) (n:=n) 17 n (by omega);have k6:=i4 (i:=i+1) (n:=n) 17 n (by omega);have k7:=bS (n:=i+1) n (qz i) (i:=i) (by omega);have k8:=aR (qz i i) hm;refine aM fun _ K=>?_;simp(disch:=omega) only[kd];apply K
  refine iX rfl ?_;refine bx (bV ?_);refine aM fun _ K=>?_;simp only[kd];apply K
  refine aM fun _ K=>?_;simp(disch:=omega) only[kd,aa,hml,Nat.reduceEqDiff,k1,Nat.reduceLeDiff,List.length_replicate,List.all_replicate,k3,k4,Nat.reduceBEq];apply K
  refine de.weak (aE (tm:=(jk::.one (.p (.ptr (qM (mat n n h))))::jk::.one (.sl 17 0 0 n)::rN i::j4 (j4 (j4 (jk::jk::rN n::rN i::j16 (j16 (j16 (j16 (jk::jk::jk::[]))))))))) (l:=[(17,kI 17 n n (i+1) (qz i))]) ⟨?_,trivial⟩ (by simp[wk])) ?_
  ·first|exact k4|rfl
  refine cd fun _ K=>?_;simp(disch:=omega) only[kd,aa,k5,k7,k8,da];apply K
  show de _ _ _ _ _ _ _;refine cd fun _ K=>?_;simp(disch:=omega) only[kd,aO];apply K
  refine⟨⟨i+1,by omega⟩,by simp only;omega,aE ⟨?_,trivial⟩ ?_,rfl⟩
  ·show _::_=_::_;rw[cj fun x y _ _=>uJ i x y]
  simp[wk]
 have hin:i=n:=by omega
 subst hin;refine aM fun _ K=>?_;simp(disch:=omega) only[kd];apply K
 refine lw rfl ?_;show de _ _ _ _ _ _ _;have e:kI 17 i i i (qz i)=mxI 17 i i idF:=by
  rw[lK];show _::_=_::_;rw[cj fun x y hx _=>yx x y hx]
 rw[e];obtain⟨n,hni⟩: ∃n,n=i:=⟨_,rfl⟩;subst hni;clear e hm hi;refine fq (G:=Unit) (fun _=>⟨(jk::.one (.p (.ptr (qM (mat n n h))))::jk::.one (.sl 17 0 0 n)::j16 (j16 (j16 (j16 (j16 (j4 ([]))))))),Hm [(17,mxI 17 n n idF)]⟩) (fun _=>je) (fun _=>0) () ?_ rfl ?_
 ·refine aE ⟨rfl,trivial⟩ ?_;simp[wk]
 intro _;refine bV ?_;have c1:=IF hn1 hn hr hS;obtain⟨S,hSe⟩: ∃S,S=idF:=⟨_,rfl⟩;rw[<- hSe]at c1 cV cM⊢;refine bx (oK (oJ 2 cM Gr [] [] (by simp[wk]) (by decide) fun K hK=>?_));simp only[kd,jU];apply hK;clear hK K;refine⟨⟨⟨_,rfl,.inr ⟨17,0,0,n,rfl,bU (d:=17) (n:=n) (c:=n) (f:=S) rfl,gD (d:=17) (n:=n) (c:=n) (f:=S) rfl⟩,.inl ⟨rfl,rfl⟩,trivial⟩,⟨38,rfl,fun h=>(h rfl).elim⟩⟩,by simp,?_⟩;intro K hK;rw[Ic (d:=38) rfl];simp only[kd,aa];apply hK;clear hK K;show de _ _ _ _ _ _ _;refine de.weak (aE (tm:=(jk::.one (.p (.ptr (qM (mat n n h))))::jk::.one (.sl 17 0 0 n)::j16 (j16 (j16 (j16 (j16 (j4 ([])))))))) (l:=[(17,mxI 17 n n S)]) ⟨rfl,trivial⟩ (by simp[wk])) ?_
 -- the Gram matrix
 refine bx (oK (oJ 2 c1 (Ey _ _ _ _) [] [] (by simp[wk]) (by decide) fun K hK=>?_));simp only[kd];apply hK;clear hK K;refine⟨⟨⟨_,rfl,.inl ⟨rfl,rfl⟩,.inr ⟨17,0,0,n,rfl,bU (d:=17) (n:=n) (c:=n) (f:=S) rfl,gD (d:=17) (n:=n) (c:=n) (f:=S) rfl⟩,trivial⟩,⟨42,rfl,fun _=>rfl⟩⟩,by simp,?_⟩;intro K hK;rw[Ib (d:=42) rfl];simp only[kd,aa];apply hK;clear hK K;show de _ _ _ _ _ _ _;refine de.weak (aE (tm:=(jk::.one (.p (.ptr (qM (mat n n h))))::jk::.one (.sl 17 0 0 n)::jk::.one (.sl 42 0 0 n)::j16 (j16 (j16 (j16 (j16 (jk::jk::[]))))))) (l:=[(17,mxI 17 n n S),(42,mxI 42 n n (gmB n h S))]) ⟨rfl,rfl,trivial⟩ (by simp[wk])) ?_;refine de.weak ((bC 42 (bU (d:=42) (n:=n) (c:=n) (f:=gmB n h S) rfl)).trans (aE (tm:=(jk::.one (.p (.ptr (qM (mat n n h))))::jk::.one (.sl 17 0 0 n)::jk::slI (mat n n (gmB n h S))::j16 (j16 (j16 (j16 (j16 (jk::jk::[]))))))) (l:=[(17,mxI 17 n n S)]) ⟨rfl,trivial⟩ (by
  simp[wk]
  (repeat' apply And.intro)<;>first|rfl|exact(gD (H:=Hm [(17,mxI 17 n n S),(42,mxI 42 n n (gmB n h S))]) (d:=42) (n:=n) (c:=n) (f:=gmB n h S) rfl).symm))) ?_
 refine cy [⟨1,_,_,_,cV,rfl⟩] [] [] fun _ K=>?_;simp(disch:=omega) only[kd,slI,dI.a,aa,my,tf,Nat.reduceEqDiff,eu,gp];apply K
 refine bx (aM fun _ K=>?_);simp only[kd];apply K;refine dU rfl ?_;refine aM fun _ K=>?_;simp only[kd];apply K
 refine cX ⟨.inr rfl,rfl,_,b8.refl _,?_⟩;refine⟨.one (.sl 17 0 0 n),17,?_,rfl,?_,rfl⟩
 ·simp(disch:=omega) only[kd,Tryz.results46]
 exact(bZ 17 0 _ _ _).symm
end
/-! awake -/
abbrev Du:List (List Int):=[[2,-1],[-1,3]]
abbrev Ro:List (List Int):=[[2,-1],[-1,2]]
abbrev QX:List (List Int):=[[2,1],[1,3]]
theorem Ol:bF Du=true:=by decide+kernel
theorem Dv:Du=mat 2 2 (ent Du):=rfl
theorem xL:RedR (ent Du) 2:=by
 have h:=(dN _).1 Ol;rw[Dv]at h;have:=((sZ (by omega)).1 h).2.2;exact this
theorem P8: ¬ox Ro:=fun h=>by
 have:=(h.2.1 0 (by decide)).2
 revert this;decide
theorem QY:mat 2 2 (gmB 2 (ent Du) (Ez (gmB 2 (ent Du) idF) idF))=QX:=by decide+kernel
theorem Lq (k:Nat) (hk:k+1<2):nrm 2 (ent Du) (idF k)<=nrm 2 (ent Du) (idF (k+1)):=by
 obtain rfl:k=0:=by omega
 decide
theorem Om:GR 2 (gmB 2 (ent Du) idF)=none:=by
 have h: ∀i,i<2-> ¬VioP 2 (gmB 2 (ent Du) idF) i:=fun i hi=>by
  rintro⟨c,h1,h2⟩
  match i,hi with
  |0,_=>
   obtain rfl:c=0:=by simpa using h1
   revert h2;decide
  |1,_=>
   have hc:c=0\/c=1\/c=2:=by omega
   rcases hc with rfl|rfl|rfl<;>revert h2<;>decide
 show rx 2 _ 2 0=none;rw[rx,if_neg (h 0 (by omega)),rx,if_neg (h 1 (by omega))];rfl
theorem Dw:CallG Tryz.prog 0 138 13 [] je ⟨[],.raw (.bool true)⟩:=by
 have cR:=Cm 2 (ent Du) idF (by omega) (by omega) xL (InB2.one (by omega) (by omega) xL) (Cn 2 (ent Du) (by omega) (by omega) xL Lq Om);have hTl:=aU 2 2 (trF (Ez (gmB 2 (ent Du) idF) idF));rw[QY,<- Dv]at cR;generalize mat 2 2 (trF (Ez (gmB 2 (ent Du) idF) idF))=T at*
 have hTi:(T.length:Int)=2:=by omega
 have cS:=Pb QX QX;rw[decide_eq_true rfl]at cS;have cI:=jg Ro false (by simp[P8]);simp only[slI,ls,fR,fI,List.map_cons,List.map_nil]at cR cS cI;refine dq Tryz.func13 rfl (by kernel_rfl) ?_;rw[Tryz.ntmps13];refine aM fun _ K=>?_;simp only[kd,ae];apply K
 refine cy [⟨3,_,_,_,cR,rfl⟩] [] [] fun _ K=>?_;simp(disch:=omega) only[kd,Rb,dI.a,aa,Nat.reduceMul,Nat.reduceLeDiff];apply K
 refine cy [⟨18,_,_,_,cI,rfl⟩] [⟨12,_,_,_,cS⟩] [] fun _ K=>?_;simp(disch:=omega) only[kd,dI.a,aa,ls,fR,hTi,Nat.reduceMul,Nat.reduceLeDiff,Nat.reduceBEq];apply K
 (refine cX ⟨.inr rfl,rfl,aG rfl ?_ rfl⟩;simp(disch:=omega) only[kd,Tryz.results13])
end Go.Proofs.YtfgeomlagfomgaaGreatDoor
