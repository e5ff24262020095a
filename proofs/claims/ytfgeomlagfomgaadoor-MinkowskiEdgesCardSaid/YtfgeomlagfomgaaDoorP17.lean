/-
  Part 18 of a proof (walks and plain facts).
-/
import Derived.Test.YtfgeomlagfomgaaDoorP16
set_option linter.all false
set_option maxRecDepth 100000
set_option maxHeartbeats 64000000
open Nat renaming reduceAdd → aa
open Nat renaming reduceEqDiff → ab
open Nat renaming le_refl → ac
open List renaming replicate → ae
open Nat renaming reduceBEq → af
open Nat renaming reduceLeDiff → ah
open List renaming mem_map → ak
open List renaming getElem?_append_left → ao
open List renaming getElem?_eq_none → aq
open List renaming length_replicate → aw
open List renaming getElem?_map → ax
namespace Go.Proofs.YtfgeomlagfomgaaDoor
open Go.RowKit
theorem yq (k c:Nat) (F:FF) (b:Bool):n7 ⟨dD 0 k c F,sf k b⟩:=by
 refine⟨rfl,fun o ho e he x hx=>?_⟩;rcases List.mem_cons.1 ho with rfl|ho
 ·simp only[gL,List.mem_mapIdx]at he;obtain⟨i,_,rfl⟩:=he;simp at hx;subst hx;rfl
 obtain⟨r,_,rfl⟩:=List.mem_map.1 ho;simp only[gK,lc,ak]at he;obtain⟨z,_,rfl⟩:=he;simp[fI]at hx;subst hx;rfl
theorem Bv {ops:Array Oper} {m d k c:Nat} {F:FF} {b:Bool} {s:AS} (hd:cwD ops m=some d):II ops m ⟨dD 0 k c F,sf k b⟩ s=AS.put ⟨s.tmps,aO s.H d (dD d k c F)⟩ (some d) (.tup [(false,[.sl d 0 0 k]),(false,[.p (.raw (.bool b))])]):=by
 unfold II;rw[hd];simp only[fj];rfl
/-! The Gram matrix of short rows. -/
theorem xt {n:Nat} {h S:FF} (hn1:1<=n) (hn:n<=4) (hr:dZ h n) (hS: ∀a,a<n->GdR n h (S a)) {a b:Nat} (ha:a<n) (hb:b<n):
  vG (bL n n h) (bL n n S) a b=dP n h S a b:=by
 unfold vG;rw[lN S ha,lN S hb];exact xY hn1 (by omega) hr ((hS a ha).co hn1 hn hr) ((hS b hb).co hn1 hn hr)
theorem EC {n:Nat} {h S:FF} (hn1:1<=n) (hn:n<=4) (hr:dZ h n) (hS:InB2 n h 262144 S):I4 (bL n n h) (bL n n S):=by
 refine⟨nX hn1 (by omega) hr,fun i hi j hj=>?_⟩;rw[aU]at hi hj;have g:=oW hr.pd hS hi hj 262144 (by decide);refine⟨?_,?_,?_,?_⟩
 ·rw[aU,lN S hi];exact iC ((show GdR n h (S i)from hS.nr i hi).co hn1 hn hr)
 ·rw[aU,lN S hj];exact iC ((show GdR n h (S j)from hS.nr j hj).co hn1 hn hr)
 ·rw[xt hn1 hn hr hS.nr hi hj];omega
 rw[xt hn1 hn hr hS.nr hi hj];omega
theorem BS {n:Nat} {h S:FF} (hn1:1<=n) (hn:n<=4) (hr:dZ h n) (hS:InB2 n h 262144 S):
  CallC Tryd.prog 16 [bT (bL n n h),bT (bL n n S)] ⟨dD 0 n n (dP n h S),sf n true⟩:=by
 have c:=E9 (bL n n h) (bL n n S) (by rw[aU];omega);rw[qR (EC hn1 hn hr hS),aU]at c;have e:dD 0 n n (vG (bL n n h) (bL n n S))=dD 0 n n (dP n h S):=by
  show _::_=_::_;rw[ct fun a b ha hb=>xt hn1 hn hr hS.nr ha hb]
 rwa[e]at c
/-! The sum of rows. -/
def sR (n:Nat) (c:Nat->Int) (S:FF) (r:Nat):Nat->Int:=fun j=>bu (fun a=>c a*S a j) r
def AJ (n:Nat) (c:Nat->Int) (S:FF) (r j:Nat):Nat->Int:=fun b=>if b<j then sR n c S (r+1) b else sR n c S r b
theorem CP {n:Nat} {c:Nat->Int} {S:FF} (hc: ∀j,-1<=c j/\c j<=1) (hS: ∀a,a<n-> ∀j,j<n-> -1099511627776<=S a j/\S a j<=1099511627776) (j:Nat) (hj:j<n):
  ∀r,r<=n-> -((r:Int)*1099511627776)<=sR n c S r j/\sR n c S r j<=(r:Int)*1099511627776
 |0,_=>by simp[sR,bu]
 |r+1,h=>by
  have ih:=CP hc hS j hj r (by omega);have h1:=hS r (by omega) j hj;have h2:=hc r;have e:sR n c S (r+1) j=sR n c S r j+c r*S r j:=rfl;have h3:c r= -1\/c r=0\/c r=1:=by omega
  rw[e];have h4:((r+1:Nat):Int)*1099511627776=(r:Int)*1099511627776+1099511627776:=by omega
  rw[h4];rcases h3 with h3|h3|h3<;>rw[h3]<;>omega
theorem CR (n:Nat) (c:Nat->Int) (S:FF) (r:Nat):AJ n c S r 0=sR n c S r:=by
 funext b;unfold AJ;rw[if_neg (by omega)]
theorem Fs (n:Nat) (c:Nat->Int) (S:FF) (r:Nat):bz n (AJ n c S r n)=bz n (sR n c S (r+1)):=gC fun b hb=>by unfold AJ;rw[if_pos hb]
theorem HW (n:Nat) (c:Nat->Int) (S:FF) (r j:Nat):AJ n c S r j j=sR n c S r j:=by unfold AJ;rw[if_neg (by omega)]
theorem EJ (n j:Nat) (g:Nat->Int) (v:Int):(lc fI (bz n g)).set j [.p (.raw (.int .i64 v))]=lc fI (bz n (fun b=>if b=j then v else g b)):=by
 rw[<- l9,<- ss];rfl
theorem CQ (n:Nat) (c:Nat->Int) (S:FF) (r j:Nat):(fun b=>if b=j then sR n c S r j+c r*S r j else AJ n c S r j b)=AJ n c S r (j+1):=by
 funext b;unfold AJ;by_cases h:b=j
 ·subst h;rw[if_pos rfl,if_pos (by omega)];rfl
 by_cases h2:b<j
 ·rw[if_neg h,if_pos h2,if_pos (by omega)]
 rw[if_neg h,if_neg h2,if_neg (by omega)]
theorem JD (n:Nat) (c:Nat->Int) (S:FF):gK (bz n (sR n c S 0))=⟨2,1,ae n [.p (.raw (.int .i64 0))]⟩:=by
 have e:bz n (sR n c S 0)=ae n 0:=by
  apply List.ext_getElem?;intro j;by_cases hj:j<n
  ·rw[aX _ hj,List.getElem?_replicate,if_pos hj];rfl
  rw[aq (by rw[bA];omega),aq (by simp;omega)]
 rw[gK,e,lc,List.map_replicate];rfl
theorem CG (n:Nat) (h S:FF) (i:Nat):gB n h S i i=sR n (ip n (dP n h S) i (3^i)) S n:=by
 unfold gB;rw[if_pos rfl];rfl
def Jb (d n i:Nat) (S:FF) (X:Nat->Int):List OObj:=⟨23,1,(gL d (ae n n)).set i [.sl d (n+1) 0 n]⟩::((bL n n S).map gK++[gK (bz n X)])
theorem Hp {d n i:Nat} (S S':FF) (hi:i<n) (hS': ∀k,k≠i->S' k=S k) (r:Nat):
  (dD d n n S'++[gK (bz n (S i))])[r]?=((Jb d n i S (S' i))[sw (i+1) (n+1) r]?).map (tc d (i+1) (n+1)):=by
 have hO: ∀l:List Int,tc d (i+1) (n+1) (gK l)=gK l:=fun l=>by
  simp only[tc,gK,lc,List.map_map]
  congr 1
 have hlen:((bL n n S).map gK).length=n:=by rw[List.length_map,aU]
 cases r with
 |zero=>
  rw[show sw (i+1) (n+1) 0=0 by simp[sw]];unfold Jb;simp only[List.cons_append,List.getElem?_cons_zero,Option.map_some,tc]
  congr 2
  apply List.ext_getElem?;intro k;rw[ax,List.getElem?_set,bQ,aw];by_cases hk:k<n
  ·rw[ck d n hk];by_cases h1:i=k
   ·subst h1;have hin: ¬n=i:=by omega
    simp[hi,hin,jU,nt,sw]
   have h1': ¬k=i:=fun e=>h1 e.symm
   have h2: ¬k=n:=by omega
   simp[h1,h1',h2,jU,nt,sw]
  rw[if_neg (by omega),aq (by rw[bQ,aw];omega)];rfl
 |succ r=>
  have hsw:sw (i+1) (n+1) (r+1)=sw i n r+1:=by
   unfold sw;by_cases h1:r=i
   ·simp[h1]
   by_cases h2:r=n
   ·simp[h2,show ¬n=i by omega]
   simp[h1,h2]
  rw[hsw];unfold Jb;rw[List.cons_append,List.getElem?_cons_succ,List.getElem?_cons_succ];by_cases h1:r=i
  ·subst h1;rw[show sw r n r=n by simp[sw],ao (by rw[List.length_map,aU];exact hi),List.getElem?_append_right (by rw[hlen];omega),hlen,Nat.sub_self];rw[ax,bq _ _ hi];simp[hO]
  by_cases h2:r=n
  ·subst h2;rw[show sw i r r=i by simp[sw,h1],List.getElem?_append_right (by rw[List.length_map,aU];omega),ao (by rw[hlen];exact hi),List.length_map,aU,Nat.sub_self];rw[ax,bq _ _ hi];simp[hO]
  rw[show sw i n r=r by simp[sw,h1,h2]];by_cases hr:r<n
  ·rw[ao (by rw[List.length_map,aU];exact hr),ao (by rw[hlen];exact hr),ax,ax,bq _ _ hr,bq _ _ hr,hS' r h1];simp[hO]
  rw[aq (by simp[aU];omega),aq (by simp[aU];omega)];rfl
theorem zL (d n c:Nat) (f:FF): ∀q∈dD d n c f,∀e∈q.elems,∀x∈e,rT (dD d n c f).length x:=fun q hq e he x hx=>by
 have hl:(dD d n c f).length=n+1:=by simp[aU]
 rw[hl];simp only[List.mem_cons,ak]at hq;rcases hq with rfl|⟨r,_,rfl⟩
 ·obtain⟨k,hk⟩:=List.mem_iff_getElem?.1 he;have hkn:k<n:=by
   have:=(List.getElem?_eq_some_iff.1 hk).1;simpa[bQ] using this
  simp only at hk;rw[ck d c hkn]at hk;injection hk with hk
  subst hk;simp at hx;subst hx;show k+1<n+1;omega
 simp only[gK,lc,ak]at he;obtain⟨z,_,rfl⟩:=he;simp[fI]at hx;subst hx;trivial
structure Jp (n:Nat) (h R:FF) where
 B:Nat->Nat->Int
 rch:RchB n h B R
 inb:InB2 n h 262144 B
theorem wJ (n:Nat) (h R:FF) (hn1:1<=n) (hn:n<=4) (hr:dZ h n) (hR:RchB n h idF R):
  CallG Tryd.prog 0 63 14 [bT (bL n n h)] iy ⟨dD 0 n n R,.one (.sl 0 0 0 n)⟩:=by
 have hml:=aU n n h;refine eJ Tryd.func14 rfl (by kernel_rfl) ?_;rw[Tryd.ntmps14];refine aE fun _ K=>?_;simp(disch:=omega) only[kd,gN,bT,ae];apply K
 refine db.weak ((lg 1 1 (cs:=fQ (bL n n h)) rfl rfl).trans (aC (tm:=(jk::.one (.p (.ptr (fQ (bL n n h))))::j16 (j16 (j16 (j16 (j16 (j4 (jk::jk::[])))))))) (l:=[]) trivial (by simp[wk,fV,eo]))) ?_;refine aE fun _ K=>?_;simp(disch:=omega) only[kd,gN,aa,hml];apply K
 refine bj (aE fun _ K=>?_);simp only[kd,aa];apply K;refine dL (G:=rE n) (fun g=>⟨(jk::.one (.p (.ptr (fQ (bL n n h))))::jk::.one (.sl 17 0 0 n)::j4 (j4 (j4 (jk::jk::jk::rN n::rN g.i::j16 (j16 (j16 (j16 (jk::jk::jk::[])))))))),Hm [(17,kI 17 n n g.i (Ac g.i))]⟩) (fun _=>iy) (fun g=>n-g.i) ⟨0,by omega⟩ ?_ rfl ?_
 ·refine aC ⟨?_,trivial⟩ ?_
  ·show[_]=_;simp[kI,gL,bL]
  simp[wk]
 rintro⟨i,hi⟩;simp only;by_cases hm:i<n
 ·have k1:=BV (i:=i) (n:=n) 17 n hm;have k2:=wD (i:=i) (n:=n) 17 n hi;have k3:=aU i n (Ac i);have k4:=x4 (i:=i) (n:=n) (c:=n) 17 (Ac i) hm (fun j hj=>by unfold Ac;rw[if_neg (by omega)]);have k5:=Hf (i:=i+1) (k:=i) (n:=n) 17 n (by omega);have k6:=wD (i:=i+1) (n:=n) 17 n (by omega);have k7:=dM (n:=i+1) n (Ac i) (i:=i) (by omega);have k8:=aX (Ac i i) hm;refine aE fun _ K=>?_;simp(disch:=omega) only[kd,gN];apply K
  refine fH rfl ?_;refine bj (b9 ?_);refine aE fun _ K=>?_;simp only[kd];apply K
  refine aE fun _ K=>?_;simp(disch:=omega) only[kd,gN,aa,hml,ab,k1,ah,aw,List.all_replicate,k3,k4,af];apply K
  refine db.weak (aC (tm:=(jk::.one (.p (.ptr (fQ (bL n n h))))::jk::.one (.sl 17 0 0 n)::rN i::j4 (j4 (j4 (jk::jk::rN n::rN i::j16 (j16 (j16 (j16 (jk::jk::jk::[]))))))))) (l:=[(17,kI 17 n n (i+1) (Ac i))]) ⟨?_,trivial⟩ (by simp[wk])) ?_
  ·first|exact k4|rfl
  refine bY fun _ K=>?_;simp(disch:=omega) only[kd,gN,aa,k5,k7,k8,o9];apply K
  show db _ _ _ _ _ _ _;refine bY fun _ K=>?_;simp(disch:=omega) only[kd,gN,aS];apply K
  refine⟨⟨i+1,by omega⟩,by simp only;omega,aC ⟨?_,trivial⟩ ?_,rfl⟩
  ·show _::_=_::_;rw[ct fun x y _ _=>Cz i x y]
  simp[wk]
 have hin:i=n:=by omega
 subst hin;refine aE fun _ K=>?_;simp(disch:=omega) only[kd,gN];apply K
 refine iV rfl ?_;show db _ _ _ _ _ _ _;have e:kI 17 i i i (Ac i)=dD 17 i i idF:=by
  rw[wC];show _::_=_::_;rw[ct fun x y hx _=>Fd x y hx]
 rw[e];obtain⟨n,hni⟩: ∃n,n=i:=⟨_,rfl⟩;subst hni;clear e hm hi;refine dL (G:=Jp n h R) (fun g=>⟨(jk::.one (.p (.ptr (fQ (bL n n h))))::jk::.one (.sl 17 0 0 n)::j16 (j16 (j16 (j16 (j16 (j4 ([]))))))),Hm [(17,dD 17 n n g.B)]⟩) (fun _=>iy) (fun g=>(vC (nrm n h) g.B n).toNat) ⟨idF,hR,InB2.one hn1 (by omega) hr⟩ ?_ rfl ?_
 ·refine aC ⟨rfl,trivial⟩ ?_;simp[wk]
 rintro⟨B,rch,inb⟩;simp only;refine b9 ?_
 -- the rows in order
 have hS:=inb.ord;have cM:=s5 n h B hn1 hn hr inb.nr;rw[show iL (nrm n h) B n=jN n h B from rfl]at cM;have hso:vC (nrm n h) (jN n h B) n=vC (nrm n h) B n:=pZ _ _ n (ac n);have hnx: ∀i,qt n (dP n h (jN n h B))=some i->RchB n h (gB n h (jN n h B) i) R:=fun i hv=>by
  cases rch with
  |done B hv'=>rw[hv]at hv';cases hv'
  |step B R j hv' hk=>rw[hv]at hv';cases hv';exact hk
 have hdn:qt n (dP n h (jN n h B))=none->R=jN n h B:=fun hv=>by
  cases rch with
  |done B hv'=>rfl
  |step B R j hv' hk=>rw[hv]at hv';cases hv'
 have hnn: ∀B',0<=vC (nrm n h) B' n:=fun B'=>jo n fun a _=>(hr.pd.pos (B' a)).1
 generalize jN n h B=S at*
 have c1:=BS hn1 hn hr hS;have cV:=nA n (dP n h S) hn1 hn fun i j hi hj=>by
  have:=oW hr.pd hS hi hj 262144 (by decide);omega
 refine bj (kC (AT (k:=0) (by simp[wk]) (ov 2 cM 17 [] [] (by kernel_rfl) (by simp[wk]) hn1 rfl (iF _ _ _) (iF _ _ _) (by decide) (by simp[wk]) (by decide) fun K hK=>?_)));simp only[kd];apply hK;clear hK K;refine⟨⟨rfl,(fj 0 17 _ _ _).symm⟩,by simp,?_⟩;intro K hK;simp only[kd,aa,GX,cwD,kM];apply hK;clear hK K;show db _ _ _ _ _ _ _;refine db.weak (aC (tm:=(jk::.one (.p (.ptr (fQ (bL n n h))))::jk::.one (.sl 17 0 0 n)::j16 (j16 (j16 (j16 (j16 (j4 ([])))))))) (l:=[(17,dD 17 n n S)]) ⟨fj 0 17 n n _,trivial⟩ (by simp[wk])) ?_
 -- the Gram matrix
 refine bj (kC (oq 2 c1 (yq _ _ _ _) [] [] (by simp[wk]) (by decide) fun K hK=>?_));simp only[kd];apply hK;clear hK K;refine⟨⟨⟨_,rfl,.inl ⟨rfl,rfl⟩,.inr ⟨17,0,0,n,rfl,jF (d:=17) (n:=n) (c:=n) (f:=S) rfl,BL (d:=17) (n:=n) (c:=n) (f:=S) rfl⟩,trivial⟩,⟨42,rfl,fun _=>rfl⟩⟩,by simp,?_⟩;intro K hK;rw[Bv (d:=42) rfl];simp only[kd,aa];apply hK;clear hK K;show db _ _ _ _ _ _ _;refine db.weak (aC (tm:=(jk::.one (.p (.ptr (fQ (bL n n h))))::jk::.one (.sl 17 0 0 n)::jk::.one (.sl 42 0 0 n)::j16 (j16 (j16 (j16 (j16 (jk::jk::[]))))))) (l:=[(17,dD 17 n n S),(42,dD 42 n n (dP n h S))]) ⟨rfl,rfl,trivial⟩ (by simp[wk])) ?_;refine db.weak ((dH 42 (jF (d:=42) (n:=n) (c:=n) (f:=dP n h S) rfl)).trans (aC (tm:=(jk::.one (.p (.ptr (fQ (bL n n h))))::jk::.one (.sl 17 0 0 n)::jk::bT (bL n n (dP n h S))::j16 (j16 (j16 (j16 (j16 (jk::jk::[]))))))) (l:=[(17,dD 17 n n S)]) ⟨rfl,trivial⟩ (by
  simp[wk]
  (repeat' apply And.intro)<;>first|rfl|exact(BL (H:=Hm [(17,dD 17 n n S),(42,dD 42 n n (dP n h S))]) (d:=42) (n:=n) (c:=n) (f:=dP n h S) rfl).symm))) ?_
 cases hv:qt n (dP n h S)with
 |none=>
  have eT:m9 n (dP n h S)= .tup [(false,[.p (.raw (.int .i64 0))]),(true,a4 fun _=>0),(false,[.p (.raw (.bool false))])]:=by unfold m9;rw[hv]
  rw[eT]at cV;rw[hdn hv];refine dc [⟨1,_,_,_,cV,rfl⟩] [] [] fun _ K=>?_;simp(disch:=omega) only[kd,gN,bT,dW.a,aa,iv,mu,ab,cJ,dR];apply K
  refine bj (aE fun _ K=>?_);simp only[kd];apply K;refine ib rfl ?_;refine aE fun _ K=>?_;simp only[kd];apply K
  refine dQ ⟨.inr rfl,rfl,_,bX.refl _,?_⟩;refine⟨.one (.sl 17 0 0 n),17,?_,rfl,?_,rfl⟩
  ·simp(disch:=omega) only[kd,gN,Tryd.results14]
  exact(fj 17 0 _ _ _).symm
 |some i=>
  obtain⟨_,hi1,hi2,_⟩:=f7 n 0 i hv;have hi:i<n:=by omega
  have hi4:i<4:=by omega
  have eT:m9 n (dP n h S)= .tup [(false,[.p (.raw (.int .i64 (i:Int)))]),(true,a4 (ip n (dP n h S) i (3^i))),(false,[.p (.raw (.bool true))])]:=by unfold m9;rw[hv]
  rw[eT]at cV;have hc:=(pV n (dP n h S) i (3^i)).2.2;have hrow:=CG n h S i;have hsum:=uY hi hi2;have hin2:=hS.rep hi hi2;have hnext:=hnx i hv;have hSb: ∀a,a<n-> ∀j,j<n-> -1099511627776<=S a j/\S a j<=1099511627776:=fun a ha=>(show GdR n h (S a)from hS.nr a ha).co hn1 hn hr
  have hoth: ∀k,k≠i->gB n h S i k=S k:=fun k hk=>by unfold gB;rw[if_neg hk]
  generalize ip n (dP n h S) i (3^i)=c at*
  refine dc [⟨1,_,_,_,cV,rfl⟩] [] [] fun _ K=>?_;simp(disch:=omega) only[kd,gN,bT,dW.a,aa,iv,mu,ab,cJ,dR];apply K
  refine bj (aE fun _ K=>?_);simp only[kd];apply K;refine f8 rfl (d5 ?_);show db _ _ _ _ _ _ _;refine aE fun _ K=>?_;simp(disch:=omega) only[kd,gN,aa,hml,ab];apply K
  refine db.weak (aC (tm:=(jk::.one (.p (.ptr (fQ (bL n n h))))::jk::.one (.sl 17 0 0 n)::jk::jk::jk::rN i::.one (.ptr 8 0 0 0)::jk::.one (.sl 56 0 0 n)::j16 (j16 (j16 (j16 (j4 (j4 (j4 (jk::[]))))))))) (l:=[(17,dD 17 n n S),(8,vB c),(56,[gK (bz n (sR n c S 0))])]) ⟨rfl,rfl,?_,trivial⟩ (by simp[wk])) ?_
  ·rw[JD];rfl
  refine bj (aE fun _ K=>?_);simp only[kd,aa];apply K;refine dL (G:=rE n) (fun g=>⟨(jk::.one (.p (.ptr (fQ (bL n n h))))::jk::.one (.sl 17 0 0 n)::jk::jk::jk::rN i::.one (.ptr 8 0 0 0)::jk::.one (.sl 56 0 0 n)::j16 (j16 (j4 (j4 (j4 (jk::jk::.one (.sl 17 0 0 n)::rN n::rN g.i::j16 (j4 (j4 (j4 ([])))))))))),Hm [(17,dD 17 n n S),(8,vB c),(56,[gK (bz n (sR n c S g.i))])]⟩) (fun _=>iy) (fun g=>n-g.i) ⟨0,by omega⟩ ?_ rfl ?_
  ·refine aC ⟨rfl,rfl,rfl,trivial⟩ ?_;simp[wk]
  rintro⟨r,hr'⟩;simp only;by_cases hm:r<n
  ·have g1:=ck (n:=n) (i:=r) 17 n hm;have r1:=dM n S (i:=r) hm;have hr4:r<4:=by omega
   refine aE fun _ K=>?_;simp(disch:=omega) only[kd,gN];apply K
   refine fH rfl ?_;refine bj (b9 ?_);refine aE fun _ K=>?_;simp(disch:=omega) only[kd,gN,aa,ab,g1];apply K
   refine aE fun _ K=>?_;simp only[kd,aa];apply K
   refine dL (G:=rE n) (fun g=>⟨(jk::.one (.p (.ptr (fQ (bL n n h))))::jk::.one (.sl 17 0 0 n)::jk::jk::jk::rN i::.one (.ptr 8 0 0 0)::jk::.one (.sl 56 0 0 n)::rN r::j16 (j16 (j4 (j4 (j4 (jk::.one (.sl 17 0 0 n)::rN n::rN r::j4 (.one (.sl 17 (r+1) 0 n)::rN n::rN g.i::j16 (j4 (jk::[]))))))))),Hm [(17,dD 17 n n S),(8,vB c),(56,[gK (bz n (AJ n c S r g.i))])]⟩) (fun _=>iy) (fun g=>n-g.i) ⟨0,by omega⟩ ?_ rfl ?_
   ·refine aC ⟨rfl,rfl,?_,trivial⟩ ?_
    ·simp only[CR];rfl
    simp[wk]
   rintro⟨j,hj⟩;simp only;by_cases hjn:j<n
   ·have q1:=aX (S r) hjn;have q2:=aX (AJ n c S r j) hjn;rw[HW]at q2;have d1:=rK c hr4;have b1:=CP hc hSb j hjn r (by omega);have b2:=CP hc hSb j hjn (r+1) (by omega);have b3:=hSb r hm j hjn;have b4:c r*S r j= -(S r j)\/c r*S r j=0\/c r*S r j=S r j:=by
     have:=hc r;have h3:c r= -1\/c r=0\/c r=1:=by omega
     rcases h3 with h3|h3|h3<;>rw[h3]<;>omega
    have e0:sR n c S (r+1) j=sR n c S r j+c r*S r j:=rfl;have e1:IntKind.i64.wrap (c r*S r j)=c r*S r j:=aS (by omega) (by omega);have e2:IntKind.i64.wrap (sR n c S r j+c r*S r j)=sR n c S r j+c r*S r j:=aS (by omega) (by omega);have e3:=EJ n j (AJ n c S r j) (sR n c S r j+c r*S r j);rw[CQ]at e3;refine aE fun _ K=>?_;simp(disch:=omega) only[kd,gN];apply K
    refine fH rfl ?_;refine bj (b9 ?_);refine aE fun _ K=>?_;simp(disch:=omega) only[kd,gN,aa,ab,r1,q1];apply K
    refine iW bE (by kernel_rfl) fun _ K=>?_;simp(disch:=omega) only[kd,gN,aa,gK,ab,q2,hr4,d1,e1,e2,e3];apply K
    show db _ _ _ _ _ _ _;refine bY fun _ K=>?_;simp(disch:=omega) only[kd,gN,aS];apply K
    refine⟨⟨j+1,by omega⟩,by simp only;omega,aC ⟨rfl,rfl,?_,trivial⟩ ?_,rfl⟩
    ·first|rfl|simp[gK]
    simp[wk]
   have hjn:j=n:=by omega
   subst hjn;refine aE fun _ K=>?_;simp(disch:=omega) only[kd,gN];apply K
   refine iV rfl ?_;show db _ _ _ _ _ _ _;refine bY fun _ K=>?_;simp(disch:=omega) only[kd,gN,aS];apply K
   refine⟨⟨r+1,by omega⟩,by simp only;omega,aC ⟨rfl,rfl,?_,trivial⟩ ?_,rfl⟩
   ·simp only[Fs];rfl
   simp[wk]
  have hrn:r=n:=by omega
  subst hrn;have g1:=ck (n:=r) (i:=i) 17 r hi;have hjx:=Hp (d:=17) S (gB r h S i) hi hoth;rw[hrow]at hjx;refine aE fun _ K=>?_;simp(disch:=omega) only[kd,gN];apply K
  refine iV rfl ?_;show db _ _ _ _ _ _ _;refine bY fun _ K=>?_;simp(disch:=omega) only[kd,gN,aa,gK,ab,g1,ah,bA,aU,af];apply K
  refine⟨⟨gB r h S i,hnext,hin2⟩,by have:=hnn (gB r h S i);have:=hnn B;simp only;omega,?_,rfl⟩;refine(aC (tm:=(jk::.one (.p (.ptr (fQ (bL r r h))))::jk::.one (.sl 17 0 0 r)::j16 (j16 (j16 (j16 (j16 (j4 ([])))))))) (l:=[(17,Jb 17 r i S (sR r c S r))]) ⟨?_,trivial⟩ (by simp[wk])).trans ?_
  ·rfl
  refine(xB 17 (i+1) (r+1) (dD 17 r r (gB r h S i)++[gK (bz r (S i))]) hjx).trans ?_;refine(yM 17 (F:=dD 17 r r (gB r h S i)) rfl (zL _ _ _ _)).trans ?_;refine aC ⟨rfl,trivial⟩ ?_;simp[wk,FN,jU,nt,sw,aW,aV,aU]
section
variable {n:Nat}
def I9 (n:Nat) (a:FF) (i:Nat):Nat->Nat->Option Nat
 |0,_=>none
 |m+1,c=>if nrm n a (iA i c)<a i i then some c else I9 n a i m (c+1)
def Ha (n:Nat) (a:FF) (i:Nat):Option Nat:=I9 n a i (3^i) 0
theorem tW {a:FF} {i:Nat}: ∀m c r,I9 n a i m c=some r->c<=r/\r<c+m/\nrm n a (iA i r)<a i i
 |0,_,_,h=>by cases h
 |m+1,c,r,h=>by
  rw[I9]at h;split at h
  ·rename_i hl;injection h with h
   subst h;exact⟨ac _,by omega,hl⟩
  obtain⟨h1,h2,h3⟩:=tW m (c+1) r h;exact⟨by omega,by omega,h3⟩
inductive Gf where
 |swp (i:Nat)
 |rep (i c:Nat)
 |neg (i:Nat)
def yr (n:Nat) (a:FF):Nat->Nat->Option Gf
 |0,_=>none
 |m+1,i=>if 0<i/\a i i<a (i-1) (i-1)then some (.swp i)else match Ha n a i with
  |some c=>some (.rep i c)
  |none=>if 0<i/\a (i-1) i<0 then some (.neg i)else yr n a m (i+1)
def Gn (n:Nat) (t:FF):Gf->Nat->Nat->Int
 | .swp i=>fun r c=>if c=i then t r (i-1)else if c=i-1 then t r i else t r c
 | .rep i c=>cb t i (mV n t (iA i c))
 | .neg i=>cb t i (fun r=> - t r i)
def Gf.i:Gf->Nat
 | .swp i=>i
 | .rep i _=>i
 | .neg i=>i
/-! What the operations do to the Gram matrix. -/
theorem og {F G:Nat->Int} {i:Nat}: ∀{m},i<m->(∀a,a<m->a≠i->F a=G a)->bu G m=bu F m+(G i-F i)
 |m+1,hi,h=>by
  rw[bu,bu];by_cases e:i=m
  ·subst e;rw[aF i (F:=G) (G:=F) fun p hp=>(h p (by omega) (by omega)).symm];omega
  rw[og (m:=m) (by omega) (fun a ha hne=>h a (by omega) hne),h m (by omega) (Ne.symm e)];omega
theorem rC (h:FF) (x y:Nat->Int):BF n h x (fun r=> - y r)= - BF n h x y:=by
 have h1:=ea (n:=n) h x y y (-2);have e:(fun i=>y i+ -2*y i)=fun r=> - y r:=by funext i;omega
 rw[e]at h1;rw[h1];omega
theorem nL (h:FF) (x y:Nat->Int):BF n h (fun r=> - x r) y= - BF n h x y:=by
 have h1:=fh (n:=n) h x x y (-2);have e:(fun i=>x i+ -2*x i)=fun r=> - x r:=by funext i;omega
 rw[e]at h1;rw[h1];omega
end
abbrev JC (G T:List (List Int)) (e:Int):TV:= .tup [(false,[.p (.sl (ls (fR fI) G))]),(false,[.p (.sl (ls (fR fI) T))]),(false,[.p (.raw (.int .i64 e))])]
def nF (g R:FF) (m:Nat):Nat->Nat->Int:=fun a b=>if a<m then jj g a*R a b else R a b
def AK (g R:FF) (m j:Nat):Nat->Nat->Int:=fun a b=>if a=m/\b<j then 0-R m b else nF g R m a b
theorem w5 {g R:FF} {m a:Nat} (h:a<m):nF g R m a=tb g R a:=by
 funext b;unfold nF;rw[if_pos h];rfl
theorem CZ {g R:FF} {m a:Nat} (h: ¬a<m):nF g R m a=R a:=by
 funext b;unfold nF;rw[if_neg h]
theorem CY (g R:FF) (m:Nat):AK g R m 0=nF g R m:=by
 funext a b;unfold AK;rw[if_neg (by omega)]
theorem H5 (g R:FF) (m j:Nat):AK g R m j m j=R m j:=by
 unfold AK nF;rw[if_neg (by omega),if_neg (by omega)]
theorem CX (g R:FF) (m j a b:Nat):upd (AK g R m j) m j (0-R m j) a b=AK g R m (j+1) a b:=by
 unfold upd AK;by_cases h1:a=m
 ·subst h1;by_cases h2:b=j
  ·subst h2;simp
  by_cases h3:b<j
  ·simp[h2,h3,show b<j+1 by omega]
  simp[h2,h3,show ¬b<j+1 by omega]
 simp[h1]
theorem Fw {g R:FF} {m n:Nat} (hs:jj g m= -1) (a b:Nat) (hb:b<n):AK g R m n a b=nF g R (m+1) a b:=by
 unfold AK nF;by_cases h1:a=m
 ·subst h1;rw[if_pos ⟨rfl,hb⟩,if_pos (by omega),hs];omega
 have:a<m+1↔a<m:=by omega
 simp[h1,this]
theorem C0 {g R:FF} {m:Nat} (hs:jj g m=1) (a b:Nat):nF g R m a b=nF g R (m+1) a b:=by
 unfold nF;by_cases h1:a=m
 ·subst h1;rw[if_neg (by omega),if_pos (by omega),hs];omega
 have:a<m+1↔a<m:=by omega
 simp[this]
theorem Fy (g R:FF) (a b:Nat):R a b=nF g R 1 a b:=by
 unfold nF;split
 ·rename_i h;have:a=0:=by omega
  subst this;rw[jj];omega
 rfl
theorem Fx {g R:FF} {n a:Nat} (ha:a<n) (b:Nat):nF g R n a b=tb g R a b:=by rw[w5 ha]
theorem Gx {n:Nat} {h:FF} {s:Int} (hs:s=1\/s= -1) (x y:Nat->Int):BF n h (fun j=>s*x j) y=s*BF n h x y:=by
 rcases hs with rfl|rfl
 ·rw[dK (fun _ _ _ _=>rfl) (fun i _=>Int.one_mul (x i)) (fun _ _=>rfl)];omega
 rw[dK (x':=fun r=> - x r) (fun _ _ _ _=>rfl) (fun i _=>by omega) (fun _ _=>rfl),nL];omega
theorem H7 {n:Nat} {h g R:FF} (k:Nat):BF n h (nF g R (k+1) k) (nF g R (k+1) (k+1))=jj g k*dP n h R k (k+1):=by
 rw[w5 (by omega),CZ (by omega)];exact Gx (jl g k) _ _
structure Jr (n:Nat) where
 k:Nat
 hk:k+1<=n
theorem wI (n:Nat) (h R:FF) (hn1:1<=n) (hn:n<=4) (hr:dZ h n) (hR:RchB n h idF R):
  CallG Tryd.prog 0 63 8 [bT (bL n n h)] iy ⟨[],JC (bL n n (dP n h (tb (dP n h R) R))) (bL n n (trF (tb (dP n h R) R))) 0⟩:=by
 have hml:=aU n n h;have c1:=lT (bL n n h);rw[nX hn1 (by omega) hr]at c1;have cS:=wJ n h R hn1 hn hr hR;have inb:=(pD hR (InB2.one hn1 (by omega) hr)).1;have inq:=inb.sg (dP n h R);have cG:=BS hn1 hn hr inq;obtain⟨g,hg⟩: ∃g,g=dP n h R:=⟨_,rfl⟩;rw[<- hg]at inq cG⊢;have gd: ∀m a,a<n->GdR n h (nF g R m a):=fun m a ha=>by
  by_cases hm:a<m
  ·rw[w5 hm];exact inq.nr a ha
  rw[CZ hm];exact inb.nr a ha
 refine eJ Tryd.func8 rfl (by kernel_rfl) ?_;rw[Tryd.ntmps8];refine aE fun _ K=>?_;simp only[kd,aa,bT,ae];apply K
 refine bj (b9 ?_);refine ju [⟨1,_,_,_,c1⟩] [] fun _ K=>?_;simp only[kd,bT,aa];apply K
 refine f8 rfl ?_;refine aE fun _ K=>?_;simp(disch:=omega) only[kd,gN,aa,hml];apply K
 refine f8 rfl (d5 ?_);show db _ _ _ _ _ _ _;refine dc [⟨1,_,_,_,cS,rfl⟩] [] [] fun _ K=>?_;simp(disch:=omega) only[kd,gN,bT,dW.a,aa];apply K
 refine db.weak (aC (tm:=(bT (bL n n h)::j4 (.one (.sl 25 0 0 n)::j16 (j16 (j16 (j16 (j16 (j16 (j4 (jk::jk::[])))))))))) (l:=[(25,dD 25 n n R)]) ⟨fj 0 25 _ _ _,trivial⟩ (by simp[wk])) ?_;refine bj (aE fun _ K=>?_);simp only[kd,bT];apply K;refine dL (G:=Jr n) (fun q=>⟨(bT (bL n n h)::j4 (.one (.sl 25 0 0 n)::.raw (.int .i64 ((q.k+1:Nat):Int))::j16 (j16 (j16 (j16 (j16 (j16 (j4 (jk::[]))))))))),Hm [(25,dD 25 n n (nF g R (q.k+1)))]⟩) (fun _=>iy) (fun q=>n-q.k) ⟨0,by omega⟩ ?_ rfl ?_
 ·refine aC ⟨?_,trivial⟩ ?_
  ·show _::_=_::_;rw[ct fun a b _ _=>Fy g R a b]
  simp[wk]
 rintro⟨k,hk⟩;simp only;by_cases hm:k+1<n
 ·have e0:IntKind.i64.wrap (((k+1:Nat):Int)-1)=(k:Int):=by rw[show((k+1:Nat):Int)-1=(k:Int) by omega];exact aS (by omega) (by omega)
  have e1:IntKind.i64.wrap (((k+1:Nat):Int)+1)=((k+1+1:Nat):Int):=by rw[show((k+1:Nat):Int)+1=((k+1+1:Nat):Int) by omega];exact aS (by omega) (by omega)
  have hv:BF n h (nF g R (k+1) k) (nF g R (k+1) (k+1))=jj g k*g k (k+1):=by rw[H7,hg]
  have hgb:=oW hr.pd inb (show k<n by omega) hm 262144 (by decide);rw[<- hg]at hgb;have hsb:=jl g k;have hsv: -262144<=jj g k*g k (k+1)/\jj g k*g k (k+1)<=262144:=by
   rcases hsb with e|e<;>rw[e]<;>omega
  have cI:=Cv (bL n n h) (bz n (nF g R (k+1) k)) (bz n (nF g R (k+1) (k+1)));rw[oY hn1 (by omega) hr ((gd _ _ (by omega)).co hn1 hn hr) ((gd _ _ hm).co hn1 hn hr) (by rw[hv];omega),hv]at cI;have g1:=ck (n:=n) (i:=k) 25 n (by omega);have g2:=ck (n:=n) (i:=k+1) 25 n hm;have r1:=dM (n:=n) n (nF g R (k+1)) (i:=k) (by omega);have r2:=dM (n:=n) n (nF g R (k+1)) (i:=k+1) hm;have sgk:jj g (k+1)=if jj g k*g k (k+1)<0 then -1 else 1:=rfl
  refine bj (aE fun _ K=>?_);simp(disch:=omega) only[kd,gN,aa,bT];apply K;refine ib rfl (d5 ?_);refine bj (b9 ?_);refine jY bE [⟨10,_,_,_,cI⟩] [] (by kernel_rfl) fun _ K=>?_;simp(disch:=omega) only[kd,gN,bT,mq,Au,aa,e0,g1,g2,r1,mU,r2];apply K
  generalize hvv:jj g k*g k (k+1)=v at*
  by_cases hneg:v<0
  ·rw[if_pos hneg]at sgk;refine aE fun _ K=>?_;simp(disch:=omega) only[kd,gN];apply K
   refine ib rfl ?_;refine aE fun _ K=>?_;simp(disch:=omega) only[kd,gN,aa,g2];apply K
   refine dL (G:=rE n) (fun q=>⟨(bT (bL n n h)::j4 (.one (.sl 25 0 0 n)::.raw (.int .i64 ((k+1:Nat):Int))::j16 (j16 (j4 (j4 (j4 (jk::rN n::rN q.i::j16 (j16 (j16 (j4 (jk::jk::[]))))))))))),Hm [(25,dD 25 n n (AK g R (k+1) q.i))]⟩) (fun _=>iy) (fun q=>n-q.i) ⟨0,by omega⟩ ?_ rfl ?_
   ·refine aC ⟨?_,trivial⟩ ?_
    ·show _::_=_::_;rw[CY]
    simp[wk]
   rintro⟨j,hj⟩;simp only;by_cases hjn:j<n
   ·have r3:=dM (n:=n) n (AK g R (k+1) j) (i:=k+1) hm;have r4:(bz n (AK g R (k+1) j (k+1)))[j]?=some (R (k+1) j):=by rw[aX _ hjn,H5]
    have b1:=(show GdR n h (R (k+1))from inb.nr (k+1) hm).co hn1 hn hr j hjn;have e2:IntKind.i64.wrap (0-R (k+1) j)=0-R (k+1) j:=aS (by omega) (by omega);refine aE fun _ K=>?_;simp(disch:=omega) only[kd,gN,bT];apply K
    refine fH rfl ?_;refine bj (b9 ?_);refine aE fun _ K=>?_;simp only[kd];apply K
    refine iW bE (by kernel_rfl) fun _ K=>?_;simp(disch:=omega) only[kd,gN,aa,g2,r3,r4,e2,o9];apply K
    show db _ _ _ _ _ _ _;refine bY fun _ K=>?_;simp(disch:=omega) only[kd,gN,aS];apply K
    refine⟨⟨j+1,by omega⟩,by simp only;omega,aC ⟨?_,trivial⟩ ?_,rfl⟩
    ·show _::_=_::_;rw[ct fun a b _ _=>CX g R (k+1) j a b]
    simp[wk]
   have hjn:j=n:=by omega
   refine aE fun _ K=>?_;simp(disch:=omega) only[kd,gN,bT];apply K
   refine iV rfl ?_;show db _ _ _ _ _ _ _;refine bY fun _ K=>?_;simp only[kd,aa,e1];apply K
   refine⟨⟨k+1,by omega⟩,by simp only;omega,aC ⟨?_,trivial⟩ ?_,rfl⟩
   ·show _::_=_::_;rw[ct fun a b _ hb=>Fw (n:=j) sgk a b (by omega)]
   simp[wk]
  rw[if_neg hneg]at sgk;refine aE fun _ K=>?_;simp(disch:=omega) only[kd,gN];apply K
  refine f8 rfl (d5 ?_);show db _ _ _ _ _ _ _;refine bY fun _ K=>?_;simp only[kd,aa,e1];apply K
  refine⟨⟨k+1,by omega⟩,by simp only;omega,aC ⟨?_,trivial⟩ ?_,rfl⟩
  ·show _::_=_::_;rw[ct fun a b _ _=>C0 sgk a b]
  simp[wk]
 have hkn:k+1=n:=by omega
 refine bj (aE fun _ K=>?_);simp(disch:=omega) only[kd,gN,aa,bT];apply K;refine f8 rfl (tw ?_);show db _ _ _ _ _ _ _;have e:dD 25 n n (nF g R (k+1))=dD 25 n n (tb g R):=by
  show _::_=_::_;rw[hkn,ct fun a b ha _=>Fx ha b]
 rw[e];generalize tb g R=Q at*
 clear gd inq inb e hm hk hkn
 -- the Gram matrix
 refine bj (kC (oq 2 cG (yq _ _ _ _) [] [] (by simp[wk]) (by decide) fun K hK=>?_));simp only[kd];apply hK;clear hK K;refine⟨⟨⟨_,rfl,.inl ⟨rfl,rfl⟩,.inr ⟨25,0,0,n,rfl,jF (d:=25) (n:=n) (c:=n) (f:=Q) rfl,BL (d:=25) (n:=n) (c:=n) (f:=Q) rfl⟩,trivial⟩,⟨74,rfl,fun _=>rfl⟩⟩,by simp,?_⟩;intro K hK;rw[Bv (d:=74) rfl];simp only[kd,aa];apply hK;clear hK K;show db _ _ _ _ _ _ _;refine db.weak (aC (tm:=(bT (bL n n h)::j4 (.one (.sl 25 0 0 n)::j4 (.one (.sl 74 0 0 n)::j16 (j16 (j16 (j16 (j16 (j16 (jk::[])))))))))) (l:=[(25,dD 25 n n Q),(74,dD 74 n n (dP n h Q))]) ⟨rfl,rfl,trivial⟩ (by simp[wk])) ?_;refine db.weak ((dH 74 (jF (d:=74) (n:=n) (c:=n) (f:=dP n h Q) rfl)).trans (aC (tm:=(bT (bL n n h)::j4 (.one (.sl 25 0 0 n)::j4 (bT (bL n n (dP n h Q))::j16 (j16 (j16 (j16 (j16 (j16 (jk::[])))))))))) (l:=[(25,dD 25 n n Q)]) ⟨rfl,trivial⟩ (by
  simp[wk]
  (repeat' apply And.intro)<;>first|rfl|exact(BL (H:=Hm [(25,dD 25 n n Q),(74,dD 74 n n (dP n h Q))]) (d:=74) (n:=n) (c:=n) (f:=dP n h Q) rfl).symm))) ?_
 generalize bL n n (dP n h Q)=GM at*
 refine aE fun _ K=>?_;simp(disch:=omega) only[kd,gN,aa,bT,hml,ab];apply K
 refine bj (aE fun _ K=>?_);simp only[kd,aa];apply K;refine dL (G:=rE n) (fun q=>⟨(j4 (jk::.one (.sl 25 0 0 n)::j4 (bT GM::jk::.one (.sl 79 0 0 n)::j16 (j16 (j16 (j16 (j4 (.raw (.int .i64 (n:Int))::rN q.i::j16 (j4 (j4 (jk::[]))))))))))),Hm [(25,dD 25 n n Q),(79,kI 79 n n q.i (trF Q))]⟩) (fun _=>iy) (fun q=>n-q.i) ⟨0,by omega⟩ ?_ rfl ?_
 ·refine aC ⟨rfl,?_,trivial⟩ ?_
  ·show[_]=_;simp[kI,gL,bL]
  simp[wk]
 rintro⟨i,hi⟩;simp only;by_cases hm:i<n
 ·have hmi:=aU i n (trF Q);have hsl:(gL 79 (ae i n)).length=i:=by rw[bQ,aw]
  have hrl:((bL i n (trF Q)).map gK).length=i:=by rw[List.length_map,hmi]
  refine aE fun _ K=>?_;simp(disch:=omega) only[kd,gN,bT];apply K
  refine fH rfl ?_;refine bj (b9 ?_);refine aE fun _ K=>?_;simp only[kd];apply K
  refine aE fun _ K=>?_;simp only[kd,aa];apply K
  refine dL (G:=rE n) (fun q=>⟨(j4 (jk::.one (.sl 25 0 0 n)::j4 (bT GM::jk::.one (.sl 79 0 0 n)::rN i::j16 (j16 (j16 (j16 (jk::jk::jk::rN n::rN i::jk::jk::.one (.sl 25 0 0 n)::rN n::rN q.i::j16 (j4 ([]))))))))),Hm [(25,dD 25 n n Q),(79,Ja 79 n n (trF Q) i q.i)]⟩) (fun _=>iy) (fun q=>n-q.i) ⟨0,by omega⟩ ?_ rfl ?_
  ·refine aC ⟨rfl,rfl,trivial⟩ ?_;simp[wk]
  rintro⟨j,hj⟩;simp only;by_cases hm2:j<n
  ·have g1:=ck (n:=n) (i:=j) 25 n hm2;have hr1:=dM n Q (i:=j) hm2;have hjr:=aX (Q j) hm;cases j with
   |zero=>
    rw[Ja,EB (trF Q) hm];refine aE fun _ K=>?_;simp(disch:=omega) only[kd,gN,bT];apply K
    refine fH rfl ?_;refine bj (b9 ?_);refine aE fun _ K=>?_;simp(disch:=omega) only[kd,gN,aa,ab,g1];apply K
    refine iW bE (by kernel_rfl) fun _ K=>?_;simp(disch:=omega) only[kd,gN,aa,ab,sB hsl,hr1,hjr,Nat.reduceMul,ah,sC hsl,hmi,af];apply K
    show db _ _ _ _ _ _ _;refine bY fun _ K=>?_;simp(disch:=omega) only[kd,gN,aS];apply K
    refine⟨⟨1,by omega⟩,by simp only;omega,aC ⟨rfl,?_,trivial⟩ ?_,rfl⟩
    ·rfl
    simp[wk]
   |succ j=>
    have h01:(0==i+1)=false:=by simp
    rw[Ja,Ir];refine aE fun _ K=>?_;simp(disch:=omega) only[kd,gN,bT];apply K
    refine fH rfl ?_;refine bj (b9 ?_);refine aE fun _ K=>?_;simp(disch:=omega) only[kd,gN,aa,ab,g1];apply K
    refine iW bE (by kernel_rfl) fun _ K=>?_;simp(disch:=omega) only[kd,gN,aa,gK,ab,sB hsl,hr1,hjr,Nat.reduceMul,ah,sB hrl,bA,List.map_append,C8,List.map_replicate,CO,B0,sC hrl,af,h01,sC hsl,reduceCtorEq,List.length_append,hrl];apply K
    show db _ _ _ _ _ _ _;refine bY fun _ K=>?_;simp(disch:=omega) only[kd,gN,aS];apply K
    refine⟨⟨j+1+1,by omega⟩,by simp only;omega,aC ⟨rfl,?_,trivial⟩ ?_,rfl⟩
    ·show _=Ir 79 n n (trF Q) i (j+1);rw[Ir,gK,Ag (j+1)];rfl
    simp[wk]
  have hjc:j=n:=by omega
  subst hjc;refine aE fun _ K=>?_;simp(disch:=omega) only[kd,gN,bT];apply K
  refine iV rfl ?_;show db _ _ _ _ _ _ _;rw[Hc _ (by omega) hm];refine bY fun _ K=>?_;simp(disch:=omega) only[kd,gN,aS];apply K
  refine⟨⟨i+1,by omega⟩,by simp only;omega,aC ⟨rfl,rfl,trivial⟩ ?_,rfl⟩;simp[wk]
 have hin:i=n:=by omega
 subst hin;refine aE fun _ K=>?_;simp(disch:=omega) only[kd,gN,bT];apply K
 refine iV rfl ?_;show db _ _ _ _ _ _ _;rw[wC];refine db.weak ((dH 79 (jF (d:=79) (n:=i) (c:=i) (f:=trF Q) rfl)).trans (aC (tm:=(j4 (j4 (jk::jk::bT GM::jk::bT (bL i i (trF Q))::j16 (j16 (j16 (j16 (j16 (j4 (j4 (j4 (jk::jk::jk::[])))))))))))) (l:=[]) trivial (by
  simp[wk]
  (repeat' apply And.intro)<;>first|rfl|exact(BL (H:=Hm [(25,dD 25 i i Q),(79,dD 79 i i (trF Q))]) (d:=79) (n:=i) (c:=i) (f:=trF Q) rfl).symm))) ?_
 refine aE fun _ K=>?_;simp only[kd,aa,bT];apply K
 (refine dQ ⟨.inr rfl,rfl,aI rfl ?_ rfl⟩;simp(disch:=omega) only[kd,gN,Tryd.results8,JC])
section
variable {n:Nat}
theorem Eo (h t:FF) (i a b:Nat):cngF n h (Gn n t (.neg i)) a b=(if a=i then -1 else 1)*(if b=i then -1 else 1)*cngF n h t a b:=by
 have e: ∀c,(fun r=>Gn n t (.neg i) r c)=if c=i then fun r=> - t r i else fun r=>t r c:=fun c=>by
  by_cases e1:c=i
  ·subst e1;funext r;simp[Gn,cb]
  funext r;simp[Gn,cb,e1]
 rw[eh,e,e,eh];by_cases ha:a=i
 ·subst ha;by_cases hb:b=a
  ·subst hb;simp only[if_true];rw[nL,rC];omega
  simp only[if_true,if_neg hb];rw[nL];omega
 by_cases hb:b=i
 ·subst hb;simp only[if_true,if_neg ha];rw[rC];omega
 simp only[if_neg ha,if_neg hb];omega
theorem pR {a:FF}: ∀m i op,yr n a m i=some op->i<=op.i/\op.i<i+m/\(match op with
  | .swp j=>0<j/\a j j<a (j-1) (j-1)
  | .rep j c=>c<3^j/\nrm n a (iA j c)<a j j
  | .neg j=>0<j/\a (j-1) j<0)
 |0,_,_,h=>by cases h
 |m+1,i,op,h=>by
  rw[yr]at h;split at h
  ·rename_i hc;injection h with h
   subst h;exact⟨ac _,by show i<i+(m+1);omega,hc⟩
  split at h
  ·rename_i c hc;injection h with h
   subst h;obtain⟨_,h1,h2⟩:=tW _ _ _ hc;exact⟨ac _,by show i<i+(m+1);omega,by omega,h2⟩
  split at h
  ·rename_i hc;injection h with h
   subst h;exact⟨ac _,by show i<i+(m+1);omega,hc⟩
  obtain⟨h1,h2,h3⟩:=pR m (i+1) op h;exact⟨by omega,by omega,h3⟩
structure GC (n:Nat) (h:FF) (W:Int) (t:FF):Prop where
 nr: ∀a,a<n->cngF n h t a a<=W
 dt:(dk t n).natAbs=1
theorem GC.op {h t:FF} {W:Int} (ht:GC n h W t) {op:Gf} (ho:yr n (cngF n h t) n 0=some op):GC n h W (Gn n t op):=by
 obtain⟨_,h1,h2⟩:=pR n 0 op ho;cases op with
 |swp i=>
  have hi:i<n:=by simpa[Gf.i] using h1
  obtain⟨h0,_⟩:=h2;refine⟨fun a ha=>?_,?_⟩
  ·have e2:(fun r=>Gn n t (.swp i) r a)=if a=i then fun r=>t r (i-1)else if a=i-1 then fun r=>t r i else fun r=>t r a:=by
    by_cases e1:a=i
    ·subst e1;simp[Gn]
    by_cases e3:a=i-1
    ·rw[if_neg e1,if_pos e3];funext r;exact(if_neg e1).trans (if_pos e3)
    simp[Gn,e1,e3]
   rw[eh,e2];split
   ·rw[<- eh];exact ht.nr _ (by omega)
   split
   ·rw[<- eh];exact ht.nr _ hi
   rw[<- eh];exact ht.nr _ ha
  have:=oL (R:=t) (n:=n) (a:=i) (b:=i-1) hi (by omega) (by omega);show(dk (fun r c=>if c=i then t r (i-1)else if c=i-1 then t r i else t r c) n).natAbs=1;rw[this,Int.natAbs_neg];exact ht.dt
 |rep i c=>
  have hi:i<n:=by simpa[Gf.i] using h1
  obtain⟨_,h3⟩:=h2;refine⟨fun a ha=>?_,?_⟩
  ·by_cases e:a=i
   ·subst e;show cngF n h (cb t a (mV n t (iA a c))) a a<=W;rw[Bu];have:=ht.nr a ha;omega
   show cngF n h (cb t i (mV n t (iA i c))) a a<=W;rw[tP _ e e];exact ht.nr a ha
  show(dk (cb t i (mV n t (iA i c))) n).natAbs=1;rw[xQ hi,show iA i c i=1 by simp[iA],Int.one_mul];exact ht.dt
 |neg i=>
  have hi:i<n:=by simpa[Gf.i] using h1
  refine⟨fun a ha=>?_,?_⟩
  ·rw[Eo];have:=ht.nr a ha;split<;>omega
  show(dk (cb t i (fun r=> - t r i)) n).natAbs=1;rw[qN hi,Int.natAbs_neg];exact ht.dt
end
section
variable {n:Nat}
theorem EW (f:FF) (x:Nat->Int):nrm n f (fun i=> - x i)=nrm n f x:=by
 unfold nrm;rw[nL,rC];omega
theorem lS {f:FF} (hs:SymF f n) (x y:Nat->Int) (c:Int):nrm n f (fun i=>x i+c*y i)=nrm n f x+2*c*BF n f x y+c*c*nrm n f y:=by
 unfold nrm;rw[fh,ea,ea,ky hs y x];grind
theorem Iv {f:FF} {a b:Nat} (ha:a<n) (hb:b<n):BF n f (eC a) (eC b)=f a b:=by
 have e1: ∀(F:Nat->Int) a,a<n->bu (fun j=>F j*eC a j) n=F a:=fun F a ha=>by
  rw[fm ha (fun p _ hne=>by unfold eC;rw[if_neg hne,Int.mul_zero])];unfold eC;rw[if_pos rfl,Int.mul_one]
 unfold BF;rw[aF n (G:=fun k=>f k b*eC a k) (fun k _=>by rw[e1 (f k) b hb];exact Int.mul_comm _ _),e1 (fun k=>f k b) a ha]
theorem qY {f:FF} (hm:dw f n) {i:Nat} (hi:i<n) {x:Nat->Int} (hb: ∀j,j<i-> -1<=x j/\x j<=1) (h1:x i=1) (h0: ∀j,i<j->j<n->x j=0):f i i<=nrm n f x:=by
 rcases Int.lt_or_le (nrm n f x) (f i i)with h|h
 ·exact absurd (DG hi hb h1 h0 h) (hm.2 i hi)
 exact h
theorem j8 {f:FF} (hm:dw f n) {j:Nat} (hj:j<n): ∀i,i<=j->f i i<=f j j:=fun i hi=>by
 obtain⟨m,rfl⟩: ∃m,j=i+m:=⟨j-i,by omega⟩
 induction m with
 |zero=>exact Int.le_refl _
 |succ m ih=>
  have h1:=ih (by omega) (by omega);have h2:=(hm.1 (i+m) (by omega)).1;rw[<- Nat.add_assoc];omega
theorem uE {f:FF} (hs:SymF f n) (hm:dw f n) {i j:Nat} (hij:i<j) (hj:j<n): -(f i i)<=2*f i j/\2*f i j<=f i i:=by
 have key: ∀c:Int,-1<=c->c<=1->f j j<=f j j+2*c*f j i+c*c*f i i:=fun c h1 h2=>by
  have h:=qY hm hj (x:=fun r=>eC j r+c*eC i r) (fun r hr=>by
   unfold eC;rw[if_neg (by omega)];split<;>omega) (by unfold eC;rw[if_pos rfl,if_neg (by omega)];omega) (fun r hr _=>by unfold eC;rw[if_neg (by omega),if_neg (by omega)];omega)
  rw[lS hs,gu hj,gu (by omega),Iv hj (by omega)]at h;exact h
 have h1:=key 1 (by omega) (by omega);have h2:=key (-1) (by omega) (by omega);have e:=hs i (by omega) j hj;omega
theorem zE {f:FF} (hs:SymF f n) (hm:dw f n) {i j:Nat} (hi:i<n) (hj:j<n) (hij:i≠j): -(f j j)<=2*f i j/\2*f i j<=f j j:=by
 rcases Nat.lt_or_ge i j with h|h
 ·have h1:=uE hs hm h hj;have h2:=j8 hm hj i (by omega);omega
 have h1:=uE hs hm (show j<i by omega) hi;have e:=hs i hi j hj;omega
def qs (y:Nat->Int) (k:Nat):Nat->Int:=fun j=>if j<k then(if 0<y j then 1 else if y j<0 then -1 else 0)else 0
theorem H6 (y:Nat->Int) (k j:Nat): -1<=qs y k j/\qs y k j<=1:=by
 unfold qs;split
 ·split
  ·omega
  split<;>omega
 omega
def l1 (y:Nat->Int):Nat->Nat
 |0=>0
 |k+1=>l1 y k+(y k).natAbs
theorem x6 {y:Nat->Int}: ∀{k},l1 y k=0-> ∀j,j<k->y j=0
 |k+1,h,j,hj=>by
  rw[l1]at h;by_cases e:j=k
  ·subst e;omega
  exact x6 (k:=k) (by omega) j (by omega)
theorem BY {y:Nat->Int} {K:Nat}: ∀k,k<=K->l1 (fun j=>y j+ -1*qs y K j) k<=l1 y k/\(l1 y k≠0->l1 (fun j=>y j+ -1*qs y K j) k<l1 y k)
 |0,_=>by simp[l1]
 |k+1,hk=>by
  have ih:=BY (y:=y) (K:=K) k (by omega);have h1:(y k+ -1*qs y K k).natAbs<=(y k).natAbs/\((y k).natAbs≠0->(y k+ -1*qs y K k).natAbs<(y k).natAbs):=by
   unfold qs;rw[if_pos (by omega)];split
   ·omega
   split<;>omega
  rw[l1,l1];refine⟨by omega,fun h=>?_⟩;by_cases e:l1 y k=0
  ·have:=h1.2 (by omega);omega
  have:=ih.2 e;omega
theorem xM {f:FF} (hs:SymF f n) (hm:dw f n) {e:Nat->Int} (he: ∀j,-1<=e j/\e j<=1) {j:Nat} (hj:j<n) (hej:e j=1\/e j= -1) (hd:0<=f j j): ∀m,m<=n->(if j<m then 2*f j j-((m-1:Nat):Int)*f j j else-((m:Nat):Int)*f j j)<=2*(e j*bu (fun i=>e i*f i j) m)
 |0,_=>by simp[bu]
 |m+1,hmn=>by
  have ih:=xM hs hm he hj hej hd m (by omega);rw[bu];have hmul:((m+1:Nat):Int)*f j j=((m:Nat):Int)*f j j+f j j:=by rw[Int.natCast_add,Int.add_mul];simp
  by_cases h:m=j
  ·subst h;rw[if_neg (by omega)]at ih;rw[if_pos (by omega),Nat.add_sub_cancel];have e1:e m*(e m*f m m)=f m m:=by rcases hej with h|h<;>rw[h]<;>omega
   have e2:2*(e m*(bu (fun i=>e i*f i m) m+e m*f m m))=2*(e m*bu (fun i=>e i*f i m) m)+2*f m m:=by
    rw[Int.mul_add,e1];omega
   rw[e2];have: -((m:Nat):Int)*f m m= -(((m:Nat):Int)*f m m):=Int.neg_mul _ _;omega
  have hh:=zE hs hm (show m<n by omega) hj h;have hem:=he m;have e3: -(f j j)<=2*(e j*(e m*f m j)):=by
   have c:e m= -1\/e m=0\/e m=1:=by omega
   rcases hej with h1|h1<;>rcases c with h2|h2|h2<;>rw[h1,h2]<;>omega
  have e2:2*(e j*(bu (fun i=>e i*f i j) m+e m*f m j))=2*(e j*bu (fun i=>e i*f i j) m)+2*(e j*(e m*f m j)):=by
   rw[Int.mul_add];omega
  rw[e2];have n1: -((m:Nat):Int)*f j j= -(((m:Nat):Int)*f j j):=Int.neg_mul _ _;have n2: -((m+1:Nat):Int)*f j j= -(((m+1:Nat):Int)*f j j):=Int.neg_mul _ _;by_cases hjm:j<m
  ·rw[if_pos hjm]at ih;rw[if_pos (by omega),Nat.add_sub_cancel];have hmul2:((m:Nat):Int)*f j j=((m-1:Nat):Int)*f j j+f j j:=by
    have:((m:Nat):Int)=((m-1:Nat):Int)+1:=by omega
    rw[this,Int.add_mul,Int.one_mul]
   omega
  rw[if_neg hjm]at ih;rw[if_neg (by omega)];omega
theorem Gw {f:FF} {x y:Nat->Int} {k:Nat} (hk:k<=n) (hx: ∀i,k<=i->i<n->x i=0):BF n f x y=bu (fun j=>y j*bu (fun i=>x i*f i j) k) n:=by
 unfold BF;rw[aF n (G:=fun i=>bu (fun j=>x i*f i j*y j) n) (fun i _=>by rw[<- bO];exact aF n fun j _=>by grind),iK];refine aF n fun j _=>?_
 obtain⟨m,rfl⟩: ∃m,n=k+m:=⟨n-k,by omega⟩;have ext: ∀m,(∀i,k<=i->i<k+m->x i=0)->bu (fun i=>x i*f i j*y j) (k+m)=bu (fun i=>x i*f i j*y j) k:=fun m=>by
  induction m with
  |zero=>intro _;rfl
  |succ m ih=>
   intro h;rw[<- Nat.add_assoc,bu,ih (fun i h1 h2=>h i h1 (by omega)),h (k+m) (by omega) (by omega)]
   simp
 rw[ext m (fun i h1 h2=>hx i h1 h2),jT,Int.mul_comm]
theorem wK {f:FF} (hp:PD f n) (hm:dw f n) {k:Nat} (hk:k<n) (hk3:k<=3): ∀(l:Nat) (y:Nat->Int),l1 y k=l->(∀j,k<=j->j<n->y j=0)->0<=nrm n f y+2*BF n f y (eC k):=fun l=>by
 induction l using Nat.strongRecOn with
 |_ l ih=>
  intro y hl hy;by_cases h0:l1 y k=0
  ·have hz: ∀j,j<n->y j=0:=fun j hj=>by
    rcases Nat.lt_or_ge j k with h|h
    ·exact x6 h0 j h
    exact hy j h hj
   unfold nrm;rw[iO hz,iO hz];omega
  obtain⟨e,hE⟩: ∃e,e=qs y k:=⟨_,rfl⟩;obtain⟨y',hY⟩: ∃y':Nat->Int,y'=fun j=>y j+ -1*qs y k j:=⟨_,rfl⟩
  have heb: ∀j,-1<=e j/\e j<=1:=fun j=>by rw[hE];exact H6 y k j
  have he0: ∀j,k<=j->e j=0:=fun j hj=>by rw[hE];unfold qs;rw[if_neg (by omega)]
  have hy0: ∀j,k<=j->j<n->y' j=0:=fun j hj hjn=>by
   rw[hY];show y j+ -1*qs y k j=0;rw[hy j hj hjn,<- hE,he0 j hj];rfl
  have hsum: ∀j,j<n->y j=e j+1*y' j:=fun j _=>by rw[hE,hY];show y j=qs y k j+1*(y j+ -1*qs y k j);omega
  have h1:=ih (l1 y' k) (by rw[<- hl,hY];exact(BY k (ac k)).2 h0) y' rfl hy0
  -- the sign vector
  have h2:0<=nrm n f e+2*BF n f e (eC k):=by
   have h:=qY hm hk (x:=fun r=>e r+1*eC k r) (fun r hr=>by
    have:=heb r;unfold eC;rw[if_neg (by omega)];omega) (by show e k+1*eC k k=1;rw[he0 k (by omega)];simp[eC]) (fun r hr _=>by
    show e r+1*eC k r=0;rw[he0 r (by omega)];unfold eC;rw[if_neg (by omega)];rfl)
   rw[lS hp.1,gu hk]at h;omega
  -- the inner product
  have h3:0<=BF n f e y':=by
   rw[Gw (k:=k) (by omega) (fun i h _=>he0 i h)];refine jo n fun j hj=>?_
   rcases Nat.lt_or_ge j k with hjk|hjk
   ·by_cases hz:y' j=0
    ·rw[hz,Int.zero_mul];omega
    have hd:=hp.diag hj;have hej:(e j=1/\0<y' j)\/(e j= -1/\y' j<0):=by
     rw[hE,hY];rw[hY]at hz;have hz:y j+ -1*qs y k j≠0:=hz;show(qs y k j=1/\0<y j+ -1*qs y k j)\/(qs y k j= -1/\y j+ -1*qs y k j<0);have e0:qs y k j=if 0<y j then 1 else if y j<0 then -1 else 0:=by unfold qs;rw[if_pos hjk]
     rw[e0]at hz⊢;split
     ·rename_i hpos;rw[if_pos hpos]at hz;left;omega
     rename_i hpos;rw[if_neg hpos]at hz;split
     ·rename_i hneg;rw[if_pos hneg]at hz;right;omega
     rename_i hneg;rw[if_neg hneg]at hz;omega
    have hc:=xM hp.1 hm heb hj (by rcases hej with h|h;exact .inl h.1;exact .inr h.1) (by omega) k (by omega);rw[if_pos hjk]at hc;have hk2:((k-1:Nat):Int)*f j j<=2*f j j:=Int.mul_le_mul_of_nonneg_right (by omega) (by omega);generalize bu (fun i=>e i*f i j) k=S at*
    rcases hej with⟨g1,g2⟩|⟨g1,g2⟩
    ·rw[g1]at hc;exact Int.mul_nonneg (by omega) (by omega)
    rw[g1]at hc;exact Int.mul_nonneg_of_nonpos_of_nonpos (by omega) (by omega)
   rw[hy0 j hjk hj,Int.zero_mul];omega
  have e5:nrm n f y=nrm n f e+2*BF n f e y'+nrm n f y':=by
   rw[ew hsum,lS hp.1];omega
  have e6:BF n f y (eC k)=BF n f e (eC k)+BF n f y' (eC k):=by
   rw[dK (x':=fun j=>e j+1*y' j) (fun _ _ _ _=>rfl) hsum (fun _ _=>rfl),fh];omega
  omega
end
section
variable {n:Nat}
theorem uF {f:FF} (hp:PD f n) (hm:dw f n) {k:Nat} (hk:k<n) (hk3:k<=3) {x:Nat->Int} (h1:x k=1) (h0: ∀j,k<j->j<n->x j=0):f k k<=nrm n f x:=by
 have h:=wK hp hm hk hk3 _ (fun j=>if j<k then x j else 0) rfl (fun j hj _=>if_neg (by omega));have e: ∀j,j<n->x j=(fun j=>if j<k then x j else 0) j+1*eC k j:=fun j hj=>by
  show x j=(if j<k then x j else 0)+1*eC k j;unfold eC;by_cases h2:j<k
  ·rw[if_pos h2,if_neg (by omega)];omega
  rw[if_neg h2];by_cases h3:j=k
  ·subst h3;rw[if_pos rfl,h1];rfl
  rw[if_neg h3,h0 j (by omega) hj];rfl
 rw[ew e,lS hp.1,gu hk];omega
theorem EV (f:FF) (m:Int) (x:Nat->Int):nrm n f (fun i=>m*x i)=m*m*nrm n f x:=by
 unfold nrm BF;rw[<- bO];refine aF n fun i _=>?_
 rw[aF n (G:=fun j=>m*(f i j*x j)) (fun j _=>by grind),bO];grind
theorem qZ {f:FF} (hp:PD f n) (hm:dw f n) {k:Nat} (hk:k<n) (hk3:k<=3) {m:Int} (hm0:0<m): ∀j,j<=k-> ∀u:Nat->Int,u k=m->(∀i,k<i->i<n->u i=0)->(∀i,j<=i->i<k->m∣u i)->
  m*m*(4*f k k-bu (fun i=>f i i) j)<=4*nrm n f u
 |0,_,u,h1,h0,hd=>by
  have e: ∀i,i<n->u i=m*(if k<i then 0 else u i/m):=fun i hi=>by
   by_cases h:k<i
   ·rw[if_pos h,h0 i h hi];simp
   rw[if_neg h];by_cases h2:i=k
   ·subst h2;rw[h1,Int.ediv_self (by omega)];simp
   exact(Int.mul_ediv_cancel' (hd i (by omega) (by omega))).symm
  have h2:=uF hp hm hk hk3 (x:=fun i=>if k<i then 0 else u i/m) (by
   show(if k<k then 0 else u k/m)=1;rw[if_neg (by omega),h1,Int.ediv_self (by omega)]) (fun j hj _=>if_pos hj)
  rw[ew e,EV];have h3:=Int.mul_le_mul_of_nonneg_left h2 (Int.mul_nonneg (Int.le_of_lt hm0) (Int.le_of_lt hm0));have e0:bu (fun i=>f i i) 0=0:=rfl;rw[e0];have e4:m*m*(4*f k k-0)=4*(m*m*f k k):=by grind
  omega
 |j+1,hj,u,h1,h0,hd=>by
  have hjn:j<n:=by omega
  obtain⟨r,hr⟩: ∃r,r=u j%m:=⟨_,rfl⟩;have r0:0<=r:=by rw[hr];exact Int.emod_nonneg _ (by omega)
  have r1:r<m:=by rw[hr];exact Int.emod_lt_of_pos _ hm0
  have hdj:m∣u j+ -r:=by
   have:u j+ -r=m*(u j/m):=by have:=Int.mul_ediv_add_emod (u j) m;omega
   exact⟨u j/m,this⟩
  have sub: ∀c:Int,m∣u j+c->m*m*(4*f k k-bu (fun i=>f i i) j)<=4*nrm n f (fun i=>u i+c*eC j i):=fun c hc=>by
   refine qZ hp hm hk hk3 hm0 j (by omega) _ ?_ (fun i hi hin=>?_) (fun i hi hik=>?_)
   ·show u k+c*eC j k=m;unfold eC;rw[if_neg (by omega),h1];omega
   ·show u i+c*eC j i=0;unfold eC;rw[if_neg (by omega),h0 i hi hin];omega
   show m∣u i+c*eC j i;unfold eC;by_cases e:i=j
   ·subst e;rw[if_pos rfl,Int.mul_one];exact hc
   rw[if_neg e,Int.mul_zero,Int.add_zero];exact hd i (by omega) hik
  have a0:=sub (-r) hdj;have a1:=sub (m-r) (by
   obtain⟨q,hq⟩:=hdj;exact⟨q+1,by rw[Int.mul_add,<- hq];omega⟩)
  rw[lS hp.1,gu hjn]at a0 a1;have hW:=hp.diag hjn;rw[bu];generalize bu (fun i=>f i i) j=S at*
  generalize BF n f u (eC j)=B at*
  generalize nrm n f u=U at*
  generalize f j j=W at*
  generalize f k k=K at*
  -- (m - r) a0 + r a1
  have b0:=Int.mul_le_mul_of_nonneg_left a0 (show 0<=m-r by omega);have b1:=Int.mul_le_mul_of_nonneg_left a1 r0;have e1:(m-r)*(4*(U+2* -r*B+ -r* -r*W))+r*(4*(U+2*(m-r)*B+(m-r)*(m-r)*W))=m*(4*U+4*(r*(m-r))*W):=by grind
  have e2:(m-r)*(m*m*(4*K-S))+r*(m*m*(4*K-S))=m*(m*m*(4*K-S)):=by grind
  have h3:m*(m*m*(4*K-S))<=m*(4*U+4*(r*(m-r))*W):=by omega
  have h4:=Int.le_of_mul_le_mul_left h3 hm0;have h5:4*(r*(m-r))<=m*m:=by
   have:0<=(m-2*r)*(m-2*r):=by
    rcases Int.le_total 0 (m-2*r)with h|h
    ·exact Int.mul_nonneg h h
    exact Int.mul_nonneg_of_nonpos_of_nonpos h h
   have e:(m-2*r)*(m-2*r)=m*m-4*(r*(m-r)):=by grind
   omega
  have h6:=Int.mul_le_mul_of_nonneg_right h5 (Int.le_of_lt hW);have e3:m*m*(4*K-(S+W))=m*m*(4*K-S)-m*m*W:=by grind
  omega
theorem B8 {f:FF} (hp:PD f n) (hm:dw f n) (hn:n<=4) {k:Nat} (hk:k<n) {x:Nat->Int} (hx:x k≠0) (h0: ∀j,k<j->j<n->x j=0):f k k<=nrm n f x:=by
 have pos: ∀x:Nat->Int,0<x k->(∀j,k<j->j<n->x j=0)->f k k<=nrm n f x:=fun x hx h0=>by
  have hd:=hp.diag hk;by_cases h1:x k=1
  ·exact uF hp hm hk (by omega) h1 h0
  have h2:=qZ hp hm hk (by omega) (m:=x k) hx k (ac k) x rfl h0 (fun i h3 h4=>by omega);have hs:bu (fun i=>f i i) k<=3*f k k:=by
   have: ∀j,j<=k->bu (fun i=>f i i) j<=(j:Int)*f k k:=fun j=>by
    induction j with
    |zero=>intro _;simp[bu]
    |succ j ih=>
     intro hj;have h3:=ih (by omega);have h4:=j8 hm hk j (by omega);rw[bu,Int.natCast_add,Int.add_mul];simp;omega
   have h3:=this k (ac k);have h4:(k:Int)*f k k<=3*f k k:=Int.mul_le_mul_of_nonneg_right (by omega) (by omega);omega
  have h5:x k*x k*f k k<=x k*x k*(4*f k k-bu (fun i=>f i i) k):=Int.mul_le_mul_of_nonneg_left (by omega) (Int.mul_nonneg (by omega) (by omega));have h6:2*2<=x k*x k:=Int.mul_le_mul (by omega) (by omega) (by omega) (by omega);have h7:=Int.mul_le_mul_of_nonneg_right h6 (Int.le_of_lt hd);omega
 rcases Int.lt_or_le 0 (x k)with h|h
 ·exact pos x h h0
 rw[<- EW];exact pos (fun i=> - x i) (by show 0< - x k;omega) (fun j h1 h2=>by show-x j=0;rw[h0 j h1 h2];rfl)
end
section
variable {n:Nat}
theorem C7 {F:Nat->Int} {p q m:Nat} (hp:p<m) (hq:q<m):bu (fun a=>if a=p then F q else if a=q then F p else F a) m=bu F m:=by
 by_cases h:p=q
 ·subst h;exact aF m fun a _=>by
   by_cases e:a=p
   ·subst e;rw[if_pos rfl]
   rw[if_neg e,if_neg e]
 have h1:=og (F:=F) (G:=fun a=>if a=p then F q else F a) hp (fun a _ hne=>(if_neg hne).symm);have h2:=og (F:=fun a=>if a=p then F q else F a) (G:=fun a=>if a=p then F q else if a=q then F p else F a) hq (fun a _ hne=>by
  by_cases e:a=p
  ·rw[if_pos e,if_pos e]
  rw[if_neg e,if_neg e,if_neg hne])
 rw[if_pos rfl]at h1;rw[if_neg (Ne.symm h),if_pos rfl,if_neg (Ne.symm h)]at h2;omega
theorem r9: ∀(i:Nat) (X:FF),∃c:Nat->Int,(∃a,a<=i/\c a≠0)/\ ∀r,r<i->bu (fun a=>c a*X a r) (i+1)=0
 |0,_=>⟨fun _=>1,⟨0,by omega,by simp⟩,fun r hr=>by omega⟩
 |i+1,X=>by
  by_cases hz: ∀a,a<=i+1->X a i=0
  ·obtain⟨c,⟨a,ha,hc⟩,h⟩:=r9 i X;refine⟨fun a=>if a=i+1 then 0 else c a,⟨a,by omega,by show(if a=i+1 then 0 else c a)≠0;rw[if_neg (by omega)];exact hc⟩,fun r hr=>?_⟩;show bu (fun a=>(if a=i+1 then 0 else c a)*X a r) (i+1+1)=0;rw[bu,if_pos rfl,Int.zero_mul,Int.add_zero];by_cases e:r=i
   ·subst e;rw[aF (r+1) (G:=fun _=>0) (fun a ha=>by rw[hz a (by omega),Int.mul_zero]),cO]
   rw[aF (i+1) (G:=fun a=>c a*X a r) (fun a ha=>by rw[if_neg (by omega)])];exact h r (by omega)
  obtain⟨p,hp,hpz⟩: ∃p,p<=i+1/\X p i≠0:=by
   rcases Classical.em (∃p,p<=i+1/\X p i≠0)with h|h
   ·exact h
   exact absurd (fun a ha=>Classical.byContradiction fun hne=>h ⟨a,ha,hne⟩) hz
  obtain⟨Y,hY⟩: ∃Y:Nat->Nat->Int,Y=fun a=>if a=p then X (i+1)else if a=i+1 then X p else X a:=⟨_,rfl⟩
  have hYl:Y (i+1)=X p:=by
   rw[hY];by_cases e:i+1=p
   ·show(if i+1=p then X (i+1)else _)=_;rw[if_pos e,e]
   show(if i+1=p then X (i+1)else if i+1=i+1 then X p else X (i+1))=_;rw[if_neg e,if_pos rfl]
  obtain⟨q,hq⟩: ∃q,q=X p i:=⟨_,rfl⟩;obtain⟨c,⟨a0,ha0,hc0⟩,h⟩:=r9 i (fun a r=>q*Y a r-Y a i*X p r);obtain⟨s,hs⟩: ∃s,s=bu (fun a=>c a*Y a i) (i+1):=⟨_,rfl⟩;have hsum: ∀r,r<i+1->bu (fun a=>(if a=i+1 then -s else q*c a)*Y a r) (i+1+1)=0:=fun r hr=>by
   rw[bu,if_pos rfl,hYl,aF (i+1) (G:=fun a=>q*(c a*Y a r)) (fun a ha=>by rw[if_neg (by omega)];grind),bO];by_cases e:r=i
   ·subst e;rw[<- hs,<- hq];grind
   have h1:=h r (by omega);have h2:bu (fun a=>c a*(q*Y a r-Y a i*X p r)) (i+1)=q*bu (fun a=>c a*Y a r) (i+1)-X p r*s:=by
    rw[hs,<- bO,<- bO];have: ∀(F G:Nat->Int) m,bu (fun a=>F a-G a) m=bu F m-bu G m:=fun F G m=>by
     induction m with
     |zero=>rfl
     |succ m ih=>rw[bu,bu,bu,ih];omega
    rw[<- this];exact aF _ fun a _=>by grind
   rw[h2]at h1;have e1: -s*X p r= -(X p r*s):=by grind
   rw[e1];omega
  refine⟨fun a=>if a=p then -s else if a=i+1 then(if p=i+1 then -s else q*c p)else q*c a,?_,fun r hr=>?_⟩
  ·by_cases e:a0=p
   ·by_cases e2:p=i+1
    ·omega
    refine⟨i+1,by omega,?_⟩;show(if i+1=p then -s else if i+1=i+1 then(if p=i+1 then -s else q*c p)else q*c (i+1))≠0;rw[if_neg (by omega),if_pos rfl,if_neg e2];subst e;exact Int.mul_ne_zero (by rw[hq];exact hpz) hc0
   refine⟨a0,by omega,?_⟩;show(if a0=p then -s else if a0=i+1 then(if p=i+1 then -s else q*c p)else q*c a0)≠0;rw[if_neg e,if_neg (by omega)];exact Int.mul_ne_zero (by rw[hq];exact hpz) hc0
  rw[<- hsum r hr,<- C7 (F:=fun a=>(if a=i+1 then -s else q*c a)*Y a r) (p:=p) (q:=i+1) (by omega) (by omega)];refine aF _ fun a ha=>?_
  show(if a=p then -s else if a=i+1 then(if p=i+1 then -s else q*c p)else q*c a)*X a r=if a=p then(if i+1=i+1 then -s else q*c (i+1))*Y (i+1) r else if a=i+1 then(if p=i+1 then -s else q*c p)*Y p r else(if a=i+1 then -s else q*c a)*Y a r
  by_cases e:a=p
  ·subst e;rw[if_pos rfl,if_pos rfl,if_pos rfl,hYl]
  rw[if_neg e,if_neg e];by_cases e2:a=i+1
  ·subst e2;rw[if_pos rfl,if_pos rfl];have:Y p=X (i+1):=by rw[hY];exact if_pos rfl
   rw[this]
  rw[if_neg e2,if_neg e2,if_neg e2];have:Y a=X a:=by rw[hY];show(if a=p then X (i+1)else if a=i+1 then X p else X a)=X a;rw[if_neg e,if_neg e2]
  rw[this]
def rF (n:Nat) (t:FF):Prop:= ∃s:(Nat->Int)->Nat->Int,∀v j,j<n->mV n t (s v) j=v j
theorem Hu (h t:FF) (x:Nat->Int):nrm n h (mV n t x)=nrm n (cngF n h t) x:=oh h t x x
theorem zu {h u:FF} (hp:PD (cngF n h u) n) {x:Nat->Int} (hx: ∀i,i<n->bu (fun j=>u i j*x j) n=0): ∀j,j<n->x j=0:=by
 refine(hp.pos x).2.1 ?_;rw[<- oh];refine iO fun i hi=>?_
 rw[<- hx i hi];exact aF n fun a _=>Int.mul_comm _ _
theorem uB {h t u:FF} (hn:n<=4) (hf:PD (cngF n h t) n) (mf:dw (cngF n h t) n) (mg:dw (cngF n h u) n) (ht:rF n t) (hu:PD (cngF n h u) n) {i:Nat} (hi:i<n):cngF n h t i i<=cngF n h u i i:=by
 obtain⟨s,hs⟩:=ht;rcases Int.lt_or_le (cngF n h u i i) (cngF n h t i i)with hlt|hle
 ·exfalso;obtain⟨X,hX⟩: ∃X:Nat->Nat->Int,X=fun a=>s (fun r=>u r a):=⟨_,rfl⟩
  have hTX: ∀a j,j<n->mV n t (X a) j=u j a:=fun a j hj=>by rw[hX];exact hs _ j hj
  have hN: ∀a,nrm n (cngF n h t) (X a)=cngF n h u a a:=fun a=>by
   rw[<- Hu,ew (hTX a),eh];rfl
  have hzero: ∀a,a<=i-> ∀m k,m+k+1=n->i<=k->X a k=0:=fun a ha m=>by
   induction m using Nat.strongRecOn with
   |_ m ih=>
    intro k hk hik;refine Classical.byContradiction fun hne=>?_
    have h1:=B8 hf mf hn (show k<n by omega) hne (fun j hj hjn=>ih (n-j-1) (by omega) j (by omega) (by omega));have h2:=j8 mf (show k<n by omega) i hik;have h3:=j8 mg hi a ha;rw[hN]at h1;omega
  obtain⟨c,⟨a,ha,hc⟩,h0⟩:=r9 i X;have hker:=zu hu (x:=fun a=>if a<=i then c a else 0) (fun r hr=>by
   have e1: ∀m,i+1<=m->bu (fun j=>u r j*(if j<=i then c j else 0)) m=bu (fun j=>u r j*c j) (i+1):=fun m hm=>by
    obtain⟨d,rfl⟩: ∃d,m=i+1+d:=⟨m-(i+1),by omega⟩
    induction d with
    |zero=>exact aF _ fun j hj=>by rw[if_pos (by omega)]
    |succ d ihd=>rw[<- Nat.add_assoc,bu,ihd (by omega),if_neg (by omega)];omega
   rw[e1 n (by omega),aF (i+1) (G:=fun j=>bu (fun b=>c j*X j b*t r b) n) (fun j hj=>by
    rw[<- hTX j r hr];unfold mV;rw[Int.mul_comm,<- bO];exact aF n fun b _=>by grind),iK,aF n (G:=fun _=>0) (fun b hb=>by
    rw[aF (i+1) (G:=fun j=>(c j*X j b)*t r b) (fun _ _=>rfl),jT];by_cases hbi:b<i
    ·rw[h0 b hbi,Int.zero_mul]
    rw[aF (i+1) (G:=fun _=>0) (fun j hj=>by rw[hzero j (by omega) (n-b-1) b (by omega) (by omega),Int.mul_zero]),cO,Int.zero_mul]),cO]) a (by omega)
  rw[if_pos ha]at hker;exact hc hker
 exact hle
theorem zC {h t u:FF} (hn:n<=4) (pt:PD (cngF n h t) n) (pu:PD (cngF n h u) n) (mf:dw (cngF n h t) n) (mg:dw (cngF n h u) n) (ht:rF n t) (hu:rF n u) {i:Nat} (hi:i<n):cngF n h t i i=cngF n h u i i:=by
 have h1:=uB hn pt mf mg ht pu hi;have h2:=uB hn pu mg mf hu pt hi;omega
theorem uA {h t u:FF} (hn:n<=4) (hp:PD h n) (mf:dw (cngF n h t) n) (mg:dw (cngF n h u) n) (ht:rF n t) (hu:rF n u) (dt:dk t n≠0) (du:dk u n≠0) {i:Nat} (hi:i<n):cngF n h t i i=cngF n h u i i:=
 zC hn (hp.cng dt) (hp.cng du) mf mg ht hu hi
end
section
variable {n:Nat}
def k9 (n:Nat) (t:FF):Prop:= ∀v:Nat->Int,∃y,∀j,j<n->mV n t y j=v j
theorem k9.rinv {t:FF} (h:k9 n t):rF n t:=⟨fun v=>Classical.choose (h v),fun v=>Classical.choose_spec (h v)⟩
theorem k9.of {t t':FF} (h:k9 n t) (k: ∀x,∃y,∀j,j<n->mV n t' y j=mV n t x j):k9 n t':=fun v=>by
 obtain⟨x,hx⟩:=h v;obtain⟨y,hy⟩:=k x;exact⟨y,fun j hj=>by rw[hy j hj,hx j hj]⟩
theorem k9.one:k9 n (fun i j=>if i=j then 1 else 0):=fun v=>⟨v,fun j hj=>by
 show bu (fun a=>v a*(if j=a then 1 else 0)) n=v j;rw[fm hj (fun p _ hne=>by rw[if_neg (Ne.symm hne),Int.mul_zero]),if_pos rfl,Int.mul_one]⟩
theorem k9.congr {t t':FF} (h:k9 n t) (e: ∀i j,i<n->j<n->t' i j=t i j):k9 n t':=h.of fun x=>⟨x,fun j hj=>aF n fun a ha=>by rw[e j a hj ha]⟩
theorem k9.swap {t:FF} (h:k9 n t) {p q:Nat} (hp:p<n) (hq:q<n):k9 n (fun i c=>if c=p then t i q else if c=q then t i p else t i c):=h.of fun x=>
 ⟨fun a=>if a=p then x q else if a=q then x p else x a,fun j _=>by
  unfold mV;rw[<- C7 (F:=fun a=>x a*t j a) hp hq];refine aF n fun a _=>?_
  show(if a=p then x q else if a=q then x p else x a)*(if a=p then t j q else if a=q then t j p else t j a)=if a=p then x q*t j q else if a=q then x p*t j p else x a*t j a
  by_cases e:a=p
  ·rw[if_pos e,if_pos e,if_pos e]
  rw[if_neg e,if_neg e,if_neg e];by_cases e2:a=q
  ·rw[if_pos e2,if_pos e2,if_pos e2]
  rw[if_neg e2,if_neg e2,if_neg e2]⟩
theorem k9.comb {t:FF} (h:k9 n t) {i:Nat} (hi:i<n) {c:Nat->Int} (hc:c i=1):k9 n (cb t i (mV n t c)):=h.of fun x=>
 ⟨fun a=>if a=i then x i else x a-x i*c a,fun j _=>by
  have h1:=og (F:=fun a=>(x a-x i*c a)*t j a) (G:=fun a=>(if a=i then x i else x a-x i*c a)*cb t i (mV n t c) j a) hi (fun a _ hne=>by
   show _=(if a=i then x i else x a-x i*c a)*cb t i (mV n t c) j a;unfold cb;rw[if_neg hne,if_neg hne])
  have h2:bu (fun a=>(x a-x i*c a)*t j a) n=bu (fun a=>x a*t j a) n-x i*bu (fun a=>c a*t j a) n:=by
   rw[<- bO];have: ∀(F G:Nat->Int) m,bu (fun a=>F a-G a) m=bu F m-bu G m:=fun F G m=>by
    induction m with
    |zero=>rfl
    |succ m ih=>rw[bu,bu,bu,ih];omega
   rw[<- this];exact aF _ fun a _=>by grind
  have e1:(if i=i then x i else x i-x i*c i)*cb t i (mV n t c) j i=x i*bu (fun a=>c a*t j a) n:=by
   unfold cb mV;rw[if_pos rfl,if_pos rfl]
  show bu (fun a=>(if a=i then x i else x a-x i*c a)*cb t i (mV n t c) j a) n=bu (fun a=>x a*t j a) n;rw[h1,h2,e1,hc];have e2:(x i-x i*1)*t j i=0:=by rw[Int.mul_one,Int.sub_self,Int.zero_mul]
  rw[e2];omega⟩
theorem k9.sign {t:FF} (h:k9 n t) {s:Nat->Int} (hs: ∀a,s a=1\/s a= -1):k9 n (fun i c=>s c*t i c):=h.of fun x=>
 ⟨fun a=>s a*x a,fun j _=>aF n fun a _=>by
  show s a*x a*(s a*t j a)=x a*t j a;rcases hs a with e|e<;>rw[e]<;>grind⟩
/-! The program's loop. -/
theorem ue (N:(Nat->Int)->Int): ∀j B,j<n->k9 n (trF B)->k9 n (trF (insB N B j))
 |0,_,_,h=>h
 |j+1,B,hj,h=>by
  rw[insB];split
  ·refine ue N j _ (by omega) ?_;rw[Dj];exact h.swap hj (by omega)
  exact h
theorem p7 (N:(Nat->Int)->Int) {B:FF} (h:k9 n (trF B)): ∀i,i<=n->k9 n (trF (iL N B i))
 |0,_=>h
 |i+1,hi=>ue N i _ (by omega) (p7 N h i (by omega))
theorem CE {h B R:FF} (hr:RchB n h B R) (hB:k9 n (trF B)):k9 n (trF R):=by
 induction hr with
 |done B hv=>exact p7 _ hB n (ac n)
 |step B R i hv _ ih=>
  obtain⟨_,h1,h2,_⟩:=f7 n 0 i hv;refine ih ?_;rw[Di];exact k9.comb (p7 _ hB n (ac n)) (by omega) (pV n _ i (3^i)).1
theorem Fz {g B:FF} (h:k9 n (trF B)):k9 n (trF (tb g B)):=h.sign (s:=jj g) (jl g)
/-! The reference's loop. -/
end
end Go.Proofs.YtfgeomlagfomgaaDoor
