/-
  Part 23 of a proof (walks and plain facts).
-/
import Derived.Test.YtfgeomlagfomgaaGreatDoorS21
set_option linter.all false
set_option maxRecDepth 100000
set_option maxHeartbeats 64000000
open Nat renaming reduceAdd → aa
open Nat renaming reduceEqDiff → ab
open Nat renaming le_refl → ac
open List renaming replicate → ae
open Nat renaming reduceBEq → af
open Nat renaming reduceLeDiff → ah
open List renaming mem_map → ak
open List renaming getElem?_append_left → ao
open List renaming getElem?_eq_none → aq
open List renaming getElem?_eq_getElem → ar
open List renaming length_map → aw
open List renaming length_replicate → ax
open List renaming getElem?_map → ay
namespace Go.Proofs.YtfgeomlagfomgaaGreatDoor
open Go.RowKit
theorem yi (k c:Nat) (F:FF) (b:Bool):p7 ⟨de 0 k c F,lE k b⟩:=by
 refine⟨rfl,fun o ho e he x hx=>?_⟩;rcases List.mem_cons.1 ho with rfl|ho
 ·simp only[gm,List.mem_mapIdx]at he;obtain⟨i,_,rfl⟩:=he;simp at hx;subst hx;rfl
 obtain⟨r,_,rfl⟩:=List.mem_map.1 ho;simp only[jf,lc,ak]at he;obtain⟨z,_,rfl⟩:=he;simp[fI]at hx;subst hx;rfl
theorem Bw {ops:Array Oper} {m d k c:Nat} {F:FF} {b:Bool} {s:AS} (hd:cwD ops m=some d):Og ops m ⟨de 0 k c F,lE k b⟩ s=AS.put ⟨s.tmps,bj s.H d (de d k c F)⟩ (some d) (.tup [(false,[.sl d 0 0 k]),(false,[.p (.raw (.bool b))])]):=by
 unfold Og;rw[hd];simp only[cx];rfl
/-! The Gram matrix of short rows. -/
theorem yF {n:Nat} {h S:FF} (hn1:1<=n) (hn:n<=4) (hr:RedR h n) (hS: ∀a,a<n->GdR n h (S a)) {a b:Nat} (ha:a<n) (hb:b<n):
  vG (bu n n h) (bu n n S) a b=gmB n h S a b:=by
 unfold vG;rw[jv S ha,jv S hb];exact DS hn1 (by omega) hr ((hS a ha).co hn1 hn hr) ((hS b hb).co hn1 hn hr)
theorem DR {n:Nat} {h S:FF} (hn1:1<=n) (hn:n<=4) (hr:RedR h n) (hS:InB2 n h 262144 S):Pj (bu n n h) (bu n n S):=by
 refine⟨pT hn1 (by omega) hr,fun i hi j hj=>?_⟩;rw[aV]at hi hj;have g:=mF hr.pd hS hi hj 262144 (by decide);refine⟨?_,?_,?_,?_⟩
 ·rw[aV,jv S hi];exact js ((show GdR n h (S i)from hS.nr i hi).co hn1 hn hr)
 ·rw[aV,jv S hj];exact js ((show GdR n h (S j)from hS.nr j hj).co hn1 hn hr)
 ·rw[yF hn1 hn hr hS.nr hi hj];omega
 rw[yF hn1 hn hr hS.nr hi hj];omega
theorem BY {n:Nat} {h S:FF} (hn1:1<=n) (hn:n<=4) (hr:RedR h n) (hS:InB2 n h 262144 S):
  CallC Tryz.prog 48 [bi (bu n n h),bi (bu n n S)] ⟨de 0 n n (gmB n h S),lE n true⟩:=by
 have c:=Ef (bu n n h) (bu n n S) (by rw[aV];omega);rw[nA (DR hn1 hn hr hS),aV]at c;have e:de 0 n n (vG (bu n n h) (bu n n S))=de 0 n n (gmB n h S):=by
  show _::_=_::_;rw[cw fun a b ha hb=>yF hn1 hn hr hS.nr ha hb]
 rwa[e]at c
/-! The sum of rows. -/
def sR (n:Nat) (c:Nat->Int) (S:FF) (r:Nat):Nat->Int:=fun j=>cP (fun a=>c a*S a j) r
def GN (n:Nat) (c:Nat->Int) (S:FF) (r j:Nat):Nat->Int:=fun b=>if b<j then sR n c S (r+1) b else sR n c S r b
theorem JL {n:Nat} {c:Nat->Int} {S:FF} (hc: ∀j,-1<=c j/\c j<=1) (hS: ∀a,a<n-> ∀j,j<n-> -1099511627776<=S a j/\S a j<=1099511627776) (j:Nat) (hj:j<n):
  ∀r,r<=n-> -((r:Int)*1099511627776)<=sR n c S r j/\sR n c S r j<=(r:Int)*1099511627776
 |0,_=>by simp[sR,cP]
 |r+1,h=>by
  have ih:=JL hc hS j hj r (by omega);have h1:=hS r (by omega) j hj;have h2:=hc r;have e:sR n c S (r+1) j=sR n c S r j+c r*S r j:=rfl;have h3:c r= -1\/c r=0\/c r=1:=by omega
  rw[e];have h4:((r+1:Nat):Int)*1099511627776=(r:Int)*1099511627776+1099511627776:=by omega
  rw[h4];rcases h3 with h3|h3|h3<;>rw[h3]<;>omega
theorem JN (n:Nat) (c:Nat->Int) (S:FF) (r:Nat):GN n c S r 0=sR n c S r:=by
 funext b;unfold GN;rw[if_neg (by omega)]
theorem Mx (n:Nat) (c:Nat->Int) (S:FF) (r:Nat):bG n (GN n c S r n)=bG n (sR n c S (r+1)):=fG fun b hb=>by unfold GN;rw[if_pos hb]
theorem OO (n:Nat) (c:Nat->Int) (S:FF) (r j:Nat):GN n c S r j j=sR n c S r j:=by unfold GN;rw[if_neg (by omega)]
theorem nE (n j:Nat) (g:Nat->Int) (v:Int):(lc fI (bG n g)).set j [.p (.raw (.int .i64 v))]=lc fI (bG n (fun b=>if b=j then v else g b)):=by
 rw[<- pY,<- xQ];rfl
theorem JM (n:Nat) (c:Nat->Int) (S:FF) (r j:Nat):(fun b=>if b=j then sR n c S r j+c r*S r j else GN n c S r j b)=GN n c S r (j+1):=by
 funext b;unfold GN;by_cases h:b=j
 ·subst h;rw[if_pos rfl,if_pos (by omega)];rfl
 by_cases h2:b<j
 ·rw[if_neg h,if_pos h2,if_pos (by omega)]
 rw[if_neg h,if_neg h2,if_neg (by omega)]
theorem QK (n:Nat) (c:Nat->Int) (S:FF):jf (bG n (sR n c S 0))=⟨2,1,ae n [.p (.raw (.int .i64 0))]⟩:=by
 have e:bG n (sR n c S 0)=ae n 0:=by
  apply List.ext_getElem?;intro j;by_cases hj:j<n
  ·rw[aU _ hj,List.getElem?_replicate,if_pos hj];rfl
  rw[aq (by rw[bz];omega),aq (by simp;omega)]
 rw[jf,e,lc,List.map_replicate];rfl
theorem JC (n:Nat) (h S:FF) (i:Nat):jy n h S i i=sR n (kj n (gmB n h S) i (3^i)) S n:=by
 unfold jy;rw[if_pos rfl];rfl
def Qg (d n i:Nat) (S:FF) (X:Nat->Int):List OObj:=⟨27,1,(gm d (ae n n)).set i [.sl d (n+1) 0 n]⟩::((bu n n S).map jf++[jf (bG n X)])
theorem OA {d n i:Nat} (S S':FF) (hi:i<n) (hS': ∀k,k≠i->S' k=S k) (r:Nat):
  (de d n n S'++[jf (bG n (S i))])[r]?=((Qg d n i S (S' i))[sw (i+1) (n+1) r]?).map (vp d (i+1) (n+1)):=by
 have hO: ∀l:List Int,vp d (i+1) (n+1) (jf l)=jf l:=fun l=>by
  simp only[vp,jf,lc,List.map_map]
  congr 1
 have hlen:((bu n n S).map jf).length=n:=by rw[aw,aV]
 cases r with
 |zero=>
  rw[show sw (i+1) (n+1) 0=0 by simp[sw]];unfold Qg;simp only[List.cons_append,List.getElem?_cons_zero,Option.map_some,vp]
  congr 2
  apply List.ext_getElem?;intro k;rw[ay,List.getElem?_set,ch,ax];by_cases hk:k<n
  ·rw[bO d n hk];by_cases h1:i=k
   ·subst h1;have hin: ¬n=i:=by omega
    simp[hi,hin,jA,oq,sw]
   have h1': ¬k=i:=fun e=>h1 e.symm
   have h2: ¬k=n:=by omega
   simp[h1,h1',h2,jA,oq,sw]
  rw[if_neg (by omega),aq (by rw[ch,ax];omega)];rfl
 |succ r=>
  have hsw:sw (i+1) (n+1) (r+1)=sw i n r+1:=by
   unfold sw;by_cases h1:r=i
   ·simp[h1]
   by_cases h2:r=n
   ·simp[h2,show ¬n=i by omega]
   simp[h1,h2]
  rw[hsw];unfold Qg;rw[List.cons_append,List.getElem?_cons_succ,List.getElem?_cons_succ];by_cases h1:r=i
  ·subst h1;rw[show sw r n r=n by simp[sw],ao (by rw[aw,aV];exact hi),List.getElem?_append_right (by rw[hlen];omega),hlen,Nat.sub_self];rw[ay,bD _ _ hi];simp[hO]
  by_cases h2:r=n
  ·subst h2;rw[show sw i r r=i by simp[sw,h1],List.getElem?_append_right (by rw[aw,aV];omega),ao (by rw[hlen];exact hi),aw,aV,Nat.sub_self];rw[ay,bD _ _ hi];simp[hO]
  rw[show sw i n r=r by simp[sw,h1,h2]];by_cases hr:r<n
  ·rw[ao (by rw[aw,aV];exact hr),ao (by rw[hlen];exact hr),ay,ay,bD _ _ hr,bD _ _ hr,hS' r h1];simp[hO]
  rw[aq (by simp[aV];omega),aq (by simp[aV];omega)];rfl
theorem FJ (d n c:Nat) (f:FF): ∀q∈de d n c f,∀e∈q.elems,∀x∈e,xt (de d n c f).length x:=fun q hq e he x hx=>by
 have hl:(de d n c f).length=n+1:=by simp[aV]
 rw[hl];simp only[List.mem_cons,ak]at hq;rcases hq with rfl|⟨r,_,rfl⟩
 ·obtain⟨k,hk⟩:=List.mem_iff_getElem?.1 he;have hkn:k<n:=by
   have:=(List.getElem?_eq_some_iff.1 hk).1;simpa[ch] using this
  simp only at hk;rw[bO d c hkn]at hk;injection hk with hk
  subst hk;simp at hx;subst hx;show k+1<n+1;omega
 simp only[jf,lc,ak]at he;obtain⟨z,_,rfl⟩:=he;simp[fI]at hx;subst hx;trivial
structure Qu (n:Nat) (h R:FF) where
 B:Nat->Nat->Int
 rch:RchB n h B R
 inb:InB2 n h 262144 B
theorem Cg (n:Nat) (h R:FF) (hn1:1<=n) (hn:n<=4) (hr:RedR h n) (hR:RchB n h idF R):
  CallG Tryz.prog 0 138 46 [bi (bu n n h)] fi ⟨de 0 n n R,.one (.sl 0 0 0 n)⟩:=by
 have hml:=aV n n h;refine cY Tryz.func46 rfl (by kernel_rfl) ?_;rw[Tryz.ntmps46];refine aN fun _ K=>?_;simp(disch:=omega) only[kd,bi,ae];apply K
 refine dy.weak ((mq 1 1 (cs:=fA (bu n n h)) rfl rfl).trans (aF (tm:=(jk::.one (.p (.ptr (fA (bu n n h))))::j16 (j16 (j16 (j16 (j16 (j4 (jk::jk::[])))))))) (l:=[]) trivial (by simp[wk,gW,fD]))) ?_;refine aN fun _ K=>?_;simp(disch:=omega) only[kd,aa,hml];apply K
 refine bx (aN fun _ K=>?_);simp only[kd,aa];apply K;refine d8 (G:=jD n) (fun g=>⟨(jk::.one (.p (.ptr (fA (bu n n h))))::jk::.one (.sl 17 0 0 n)::j4 (j4 (j4 (jk::jk::jk::rN n::rN g.i::j16 (j16 (j16 (j16 (jk::jk::jk::[])))))))),Hm [(17,kI 17 n n g.i (qp g.i))]⟩) (fun _=>fi) (fun g=>n-g.i) ⟨0,by omega⟩ ?_ rfl ?_
 ·refine aF ⟨?_,trivial⟩ ?_
  ·show[_]=_;simp[kI,gm,bu]
  simp[wk]
 rintro⟨i,hi⟩;simp only;by_cases hm:i<n
 ·have k1:=qL (i:=i) (n:=n) 17 n hm;have k2:=jt (i:=i) (n:=n) 17 n hi;have k3:=aV i n (qp i);have k4:=nB (i:=i) (n:=n) (c:=n) 17 (qp i) hm (fun j hj=>by unfold qp;rw[if_neg (by omega)]);have k5:=qK (i:=i+1) (k:=i) (n:=n) 17 n (by omega);have k6:=jt (i:=i+1) (n:=n) 17 n (by omega);have k7:=cL (n:=i+1) n (qp i) (i:=i) (by omega);have k8:=aU (qp i i) hm;refine aN fun _ K=>?_;simp(disch:=omega) only[kd];apply K
  refine fB rfl ?_;refine bx (bU ?_);refine aN fun _ K=>?_;simp only[kd];apply K
  refine aN fun _ K=>?_;simp(disch:=omega) only[kd,aa,hml,ab,k1,ah,ax,List.all_replicate,k3,k4,af];apply K
  refine dy.weak (aF (tm:=(jk::.one (.p (.ptr (fA (bu n n h))))::jk::.one (.sl 17 0 0 n)::rN i::j4 (j4 (j4 (jk::jk::rN n::rN i::j16 (j16 (j16 (j16 (jk::jk::jk::[]))))))))) (l:=[(17,kI 17 n n (i+1) (qp i))]) ⟨?_,trivial⟩ (by simp[wk])) ?_
  ·first|exact k4|rfl
  refine b9 fun _ K=>?_;simp(disch:=omega) only[kd,aa,k5,k7,k8,fj];apply K
  show dy _ _ _ _ _ _ _;refine b9 fun _ K=>?_;simp(disch:=omega) only[kd,aP];apply K
  refine⟨⟨i+1,by omega⟩,by simp only;omega,aF ⟨?_,trivial⟩ ?_,rfl⟩
  ·show _::_=_::_;rw[cw fun x y _ _=>uz i x y]
  simp[wk]
 have hin:i=n:=by omega
 subst hin;refine aN fun _ K=>?_;simp(disch:=omega) only[kd];apply K
 refine iM rfl ?_;show dy _ _ _ _ _ _ _;have e:kI 17 i i i (qp i)=de 17 i i idF:=by
  rw[mG];show _::_=_::_;rw[cw fun x y hx _=>ya x y hx]
 rw[e];obtain⟨n,hni⟩: ∃n,n=i:=⟨_,rfl⟩;subst hni;clear e hm hi;refine d8 (G:=Qu n h R) (fun g=>⟨(jk::.one (.p (.ptr (fA (bu n n h))))::jk::.one (.sl 17 0 0 n)::j16 (j16 (j16 (j16 (j16 (j4 ([]))))))),Hm [(17,de 17 n n g.B)]⟩) (fun _=>fi) (fun g=>(A7 (nrm n h) g.B n).toNat) ⟨idF,hR,InB2.one hn1 (by omega) hr⟩ ?_ rfl ?_
 ·refine aF ⟨rfl,trivial⟩ ?_;simp[wk]
 rintro⟨B,rch,inb⟩;simp only;refine bU ?_
 -- the rows in order
 have hS:=inb.ord;have cM:=yw n h B hn1 hn hr inb.nr;rw[show lY (nrm n h) B n=mO n h B from rfl]at cM;have hso:A7 (nrm n h) (mO n h B) n=A7 (nrm n h) B n:=u9 _ _ n (ac n);have hnx: ∀i,rW n (gmB n h (mO n h B))=some i->RchB n h (jy n h (mO n h B) i) R:=fun i hv=>by
  cases rch with
  |done B hv'=>rw[hv]at hv';cases hv'
  |step B R j hv' hk=>rw[hv]at hv';cases hv';exact hk
 have hdn:rW n (gmB n h (mO n h B))=none->R=mO n h B:=fun hv=>by
  cases rch with
  |done B hv'=>rfl
  |step B R j hv' hk=>rw[hv]at hv';cases hv'
 have hnn: ∀B',0<=A7 (nrm n h) B' n:=fun B'=>o7 n fun a _=>(hr.pd.pos (B' a)).1
 generalize mO n h B=S at*
 have c1:=BY hn1 hn hr hS;have cV:=mM n (gmB n h S) hn1 hn fun i j hi hj=>by
  have:=mF hr.pd hS hi hj 262144 (by decide);omega
 refine bx (k9 (G5 (k:=0) (by simp[wk]) (sY 2 cM 17 [] [] (by kernel_rfl) (by simp[wk]) hn1 rfl (kE _ _ _) (kE _ _ _) (by decide) (by simp[wk]) (by decide) fun K hK=>?_)));simp only[kd,jo];apply hK;clear hK K;refine⟨⟨rfl,(cx 0 17 _ _ _).symm⟩,by simp,?_⟩;intro K hK;simp only[kd,aa,Oc,cwD,kM];apply hK;clear hK K;show dy _ _ _ _ _ _ _;refine dy.weak (aF (tm:=(jk::.one (.p (.ptr (fA (bu n n h))))::jk::.one (.sl 17 0 0 n)::j16 (j16 (j16 (j16 (j16 (j4 ([])))))))) (l:=[(17,de 17 n n S)]) ⟨cx 0 17 n n _,trivial⟩ (by simp[wk])) ?_
 -- the Gram matrix
 refine bx (k9 (kY 2 c1 (yi _ _ _ _) [] [] (by simp[wk]) (by decide) fun K hK=>?_));simp only[kd];apply hK;clear hK K;refine⟨⟨⟨_,rfl,.inl ⟨rfl,rfl⟩,.inr ⟨17,0,0,n,rfl,dj (d:=17) (n:=n) (c:=n) (f:=S) rfl,ky (d:=17) (n:=n) (c:=n) (f:=S) rfl⟩,trivial⟩,⟨42,rfl,fun _=>rfl⟩⟩,by simp,?_⟩;intro K hK;rw[Bw (d:=42) rfl];simp only[kd,aa];apply hK;clear hK K;show dy _ _ _ _ _ _ _;refine dy.weak (aF (tm:=(jk::.one (.p (.ptr (fA (bu n n h))))::jk::.one (.sl 17 0 0 n)::jk::.one (.sl 42 0 0 n)::j16 (j16 (j16 (j16 (j16 (jk::jk::[]))))))) (l:=[(17,de 17 n n S),(42,de 42 n n (gmB n h S))]) ⟨rfl,rfl,trivial⟩ (by simp[wk])) ?_;refine dy.weak ((bW 42 (dj (d:=42) (n:=n) (c:=n) (f:=gmB n h S) rfl)).trans (aF (tm:=(jk::.one (.p (.ptr (fA (bu n n h))))::jk::.one (.sl 17 0 0 n)::jk::bi (bu n n (gmB n h S))::j16 (j16 (j16 (j16 (j16 (jk::jk::[]))))))) (l:=[(17,de 17 n n S)]) ⟨rfl,trivial⟩ (by
  simp[wk]
  (repeat' apply And.intro)<;>first|rfl|exact(ky (H:=Hm [(17,de 17 n n S),(42,de 42 n n (gmB n h S))]) (d:=42) (n:=n) (c:=n) (f:=gmB n h S) rfl).symm))) ?_
 cases hv:rW n (gmB n h S)with
 |none=>
  have eT:o9 n (gmB n h S)= .tup [(false,[.p (.raw (.int .i64 0))]),(true,a4 fun _=>0),(false,[.p (.raw (.bool false))])]:=by unfold o9;rw[hv]
  rw[eT]at cV;rw[hdn hv];refine bN [⟨1,_,_,_,cV,rfl⟩] [] [] fun _ K=>?_;simp(disch:=omega) only[kd,bi,di.a,aa,jj,oB,ab,dS,fw];apply K
  refine bx (aN fun _ K=>?_);simp only[kd];apply K;refine dJ rfl ?_;refine aN fun _ K=>?_;simp only[kd];apply K
  refine cz ⟨.inr rfl,rfl,_,ca.refl _,?_⟩;refine⟨.one (.sl 17 0 0 n),17,?_,rfl,?_,rfl⟩
  ·simp(disch:=omega) only[kd,Tryz.results46]
  exact(cx 17 0 _ _ _).symm
 |some i=>
  obtain⟨_,hi1,hi2,_⟩:=kR n 0 i hv;have hi:i<n:=by omega
  have hi4:i<4:=by omega
  have eT:o9 n (gmB n h S)= .tup [(false,[.p (.raw (.int .i64 (i:Int)))]),(true,a4 (kj n (gmB n h S) i (3^i))),(false,[.p (.raw (.bool true))])]:=by unfold o9;rw[hv]
  rw[eT]at cV;have hc:=(yp n (gmB n h S) i (3^i)).2.2;have hrow:=JC n h S i;have hsum:=Av hi hi2;have hin2:=hS.rep hi hi2;have hnext:=hnx i hv;have hSb: ∀a,a<n-> ∀j,j<n-> -1099511627776<=S a j/\S a j<=1099511627776:=fun a ha=>(show GdR n h (S a)from hS.nr a ha).co hn1 hn hr
  have hoth: ∀k,k≠i->jy n h S i k=S k:=fun k hk=>by unfold jy;rw[if_neg hk]
  generalize kj n (gmB n h S) i (3^i)=c at*
  refine bN [⟨1,_,_,_,cV,rfl⟩] [] [] fun _ K=>?_;simp(disch:=omega) only[kd,bi,di.a,aa,jj,oB,ab,dS,fw];apply K
  refine bx (aN fun _ K=>?_);simp only[kd];apply K;refine dp rfl (dC ?_);show dy _ _ _ _ _ _ _;refine aN fun _ K=>?_;simp(disch:=omega) only[kd,aa,hml,ab];apply K
  refine dy.weak (aF (tm:=(jk::.one (.p (.ptr (fA (bu n n h))))::jk::.one (.sl 17 0 0 n)::jk::jk::jk::rN i::.one (.ptr 8 0 0 0)::jk::.one (.sl 56 0 0 n)::j16 (j16 (j16 (j16 (j4 (j4 (j4 (jk::[]))))))))) (l:=[(17,de 17 n n S),(8,A6 c),(56,[jf (bG n (sR n c S 0))])]) ⟨rfl,rfl,?_,trivial⟩ (by simp[wk])) ?_
  ·rw[QK];rfl
  refine bx (aN fun _ K=>?_);simp only[kd,aa];apply K;refine d8 (G:=jD n) (fun g=>⟨(jk::.one (.p (.ptr (fA (bu n n h))))::jk::.one (.sl 17 0 0 n)::jk::jk::jk::rN i::.one (.ptr 8 0 0 0)::jk::.one (.sl 56 0 0 n)::j16 (j16 (j4 (j4 (j4 (jk::jk::.one (.sl 17 0 0 n)::rN n::rN g.i::j16 (j4 (j4 (j4 ([])))))))))),Hm [(17,de 17 n n S),(8,A6 c),(56,[jf (bG n (sR n c S g.i))])]⟩) (fun _=>fi) (fun g=>n-g.i) ⟨0,by omega⟩ ?_ rfl ?_
  ·refine aF ⟨rfl,rfl,rfl,trivial⟩ ?_;simp[wk]
  rintro⟨r,hr'⟩;simp only;by_cases hm:r<n
  ·have g1:=bO (n:=n) (i:=r) 17 n hm;have r1:=cL n S (i:=r) hm;have hr4:r<4:=by omega
   refine aN fun _ K=>?_;simp(disch:=omega) only[kd];apply K
   refine fB rfl ?_;refine bx (bU ?_);refine aN fun _ K=>?_;simp(disch:=omega) only[kd,aa,ab,g1];apply K
   refine aN fun _ K=>?_;simp only[kd,aa];apply K
   refine d8 (G:=jD n) (fun g=>⟨(jk::.one (.p (.ptr (fA (bu n n h))))::jk::.one (.sl 17 0 0 n)::jk::jk::jk::rN i::.one (.ptr 8 0 0 0)::jk::.one (.sl 56 0 0 n)::rN r::j16 (j16 (j4 (j4 (j4 (jk::.one (.sl 17 0 0 n)::rN n::rN r::j4 (.one (.sl 17 (r+1) 0 n)::rN n::rN g.i::j16 (j4 (jk::[]))))))))),Hm [(17,de 17 n n S),(8,A6 c),(56,[jf (bG n (GN n c S r g.i))])]⟩) (fun _=>fi) (fun g=>n-g.i) ⟨0,by omega⟩ ?_ rfl ?_
   ·refine aF ⟨rfl,rfl,?_,trivial⟩ ?_
    ·simp only[JN];rfl
    simp[wk]
   rintro⟨j,hj⟩;simp only;by_cases hjn:j<n
   ·have q1:=aU (S r) hjn;have q2:=aU (GN n c S r j) hjn;rw[OO]at q2;have d1:=xj c hr4;have b1:=JL hc hSb j hjn r (by omega);have b2:=JL hc hSb j hjn (r+1) (by omega);have b3:=hSb r hm j hjn;have b4:c r*S r j= -(S r j)\/c r*S r j=0\/c r*S r j=S r j:=by
     have:=hc r;have h3:c r= -1\/c r=0\/c r=1:=by omega
     rcases h3 with h3|h3|h3<;>rw[h3]<;>omega
    have e0:sR n c S (r+1) j=sR n c S r j+c r*S r j:=rfl;have e1:IntKind.i64.wrap (c r*S r j)=c r*S r j:=aP (by omega) (by omega);have e2:IntKind.i64.wrap (sR n c S r j+c r*S r j)=sR n c S r j+c r*S r j:=aP (by omega) (by omega);have e3:=nE n j (GN n c S r j) (sR n c S r j+c r*S r j);rw[JM]at e3;refine aN fun _ K=>?_;simp(disch:=omega) only[kd];apply K
    refine fB rfl ?_;refine bx (bU ?_);refine aN fun _ K=>?_;simp(disch:=omega) only[kd,aa,ab,r1,q1];apply K
    refine kZ aZ (by kernel_rfl) fun _ K=>?_;simp(disch:=omega) only[kd,aa,jf,ab,q2,hr4,d1,e1,e2,e3];apply K
    show dy _ _ _ _ _ _ _;refine b9 fun _ K=>?_;simp(disch:=omega) only[kd,aP];apply K
    refine⟨⟨j+1,by omega⟩,by simp only;omega,aF ⟨rfl,rfl,?_,trivial⟩ ?_,rfl⟩
    ·first|rfl|simp[jf]
    simp[wk]
   have hjn:j=n:=by omega
   subst hjn;refine aN fun _ K=>?_;simp(disch:=omega) only[kd];apply K
   refine iM rfl ?_;show dy _ _ _ _ _ _ _;refine b9 fun _ K=>?_;simp(disch:=omega) only[kd,aP];apply K
   refine⟨⟨r+1,by omega⟩,by simp only;omega,aF ⟨rfl,rfl,?_,trivial⟩ ?_,rfl⟩
   ·simp only[Mx];rfl
   simp[wk]
  have hrn:r=n:=by omega
  subst hrn;have g1:=bO (n:=r) (i:=i) 17 r hi;have hjx:=OA (d:=17) S (jy r h S i) hi hoth;rw[hrow]at hjx;refine aN fun _ K=>?_;simp(disch:=omega) only[kd];apply K
  refine iM rfl ?_;show dy _ _ _ _ _ _ _;refine b9 fun _ K=>?_;simp(disch:=omega) only[kd,aa,jf,ab,g1,ah,bz,aV,af];apply K
  refine⟨⟨jy r h S i,hnext,hin2⟩,by have:=hnn (jy r h S i);have:=hnn B;simp only;omega,?_,rfl⟩;refine(aF (tm:=(jk::.one (.p (.ptr (fA (bu r r h))))::jk::.one (.sl 17 0 0 r)::j16 (j16 (j16 (j16 (j16 (j4 ([])))))))) (l:=[(17,Qg 17 r i S (sR r c S r))]) ⟨?_,trivial⟩ (by simp[wk])).trans ?_
  ·rfl
  refine(pi 17 (i+1) (r+1) (de 17 r r (jy r h S i)++[jf (bG r (S i))]) hjx).trans ?_;refine(EM 17 (F:=de 17 r r (jy r h S i)) rfl (FJ _ _ _ _)).trans ?_;refine aF ⟨rfl,trivial⟩ ?_;simp[wk,CR,jA,oq,sw,bL,bH,aV]
section
variable {n:Nat}
def KQ (n:Nat) (a:FF) (i:Nat):Nat->Nat->Option Nat
 |0,_=>none
 |m+1,c=>if nrm n a (cnd i c)<a i i then some c else KQ n a i m (c+1)
def mD (n:Nat) (a:FF) (i:Nat):Option Nat:=KQ n a i (3^i) 0
theorem tG {a:FF} {i:Nat}: ∀m c r,KQ n a i m c=some r->c<=r/\r<c+m/\nrm n a (cnd i r)<a i i
 |0,_,_,h=>by cases h
 |m+1,c,r,h=>by
  rw[KQ]at h;split at h
  ·rename_i hl;injection h with h
   subst h;exact⟨ac _,by omega,hl⟩
  obtain⟨h1,h2,h3⟩:=tG m (c+1) r h;exact⟨by omega,by omega,h3⟩
theorem zF {a:FF} {i:Nat}: ∀m c,KQ n a i m c=none-> ∀r,c<=r->r<c+m-> ¬nrm n a (cnd i r)<a i i
 |0,_,_=>fun r h1 h2=>by omega
 |m+1,c,h=>by
  rw[KQ]at h;split at h
  ·cases h
  rename_i hl;intro r h1 h2;by_cases e:r=c
  ·subst e;exact hl
  exact zF m (c+1) h r (by omega) (by omega)
theorem rC {a:FF} {i:Nat} (h:mD n a i=none): ¬VioP n a i:=fun⟨c,h1,h2⟩=>zF _ _ h c (by omega) (by omega) h2
inductive Nl where
 |swp (i:Nat)
 |rep (i c:Nat)
 |neg (i:Nat)
def Ek (n:Nat) (a:FF):Nat->Nat->Option Nl
 |0,_=>none
 |m+1,i=>if 0<i/\a i i<a (i-1) (i-1)then some (.swp i)else match mD n a i with
  |some c=>some (.rep i c)
  |none=>if 0<i/\a (i-1) i<0 then some (.neg i)else Ek n a m (i+1)
def Nz (n:Nat) (t:FF):Nl->Nat->Nat->Int
 | .swp i=>fun r c=>if c=i then t r (i-1)else if c=i-1 then t r i else t r c
 | .rep i c=>dU t i (mV n t (cnd i c))
 | .neg i=>dU t i (fun r=> - t r i)
def Nl.i:Nl->Nat
 | .swp i=>i
 | .rep i _=>i
 | .neg i=>i
/-! What the operations do to the Gram matrix. -/
theorem yu {F G:Nat->Int} {i:Nat}: ∀{m},i<m->(∀a,a<m->a≠i->F a=G a)->cP G m=cP F m+(G i-F i)
 |m+1,hi,h=>by
  rw[cP,cP];by_cases e:i=m
  ·subst e;rw[bf i (F:=G) (G:=F) fun p hp=>(h p (by omega) (by omega)).symm];omega
  rw[yu (m:=m) (by omega) (fun a ha hne=>h a (by omega) hne),h m (by omega) (Ne.symm e)];omega
theorem C5 (h:FF) (x y:Nat->Int):BF n h x (fun r=> - y r)= - BF n h x y:=by
 have h1:=ir (n:=n) h x y y (-2);have e:(fun i=>y i+ -2*y i)=fun r=> - y r:=by funext i;omega
 rw[e]at h1;rw[h1];omega
theorem xa (h:FF) (x y:Nat->Int):BF n h (fun r=> - x r) y= - BF n h x y:=by
 have h1:=jG (n:=n) h x x y (-2);have e:(fun i=>x i+ -2*x i)=fun r=> - x r:=by funext i;omega
 rw[e]at h1;rw[h1];omega
end
abbrev yM (G T:List (List Int)) (e:Int):TV:= .tup [(false,[.p (.sl (ls (fR fI) G))]),(false,[.p (.sl (ls (fR fI) T))]),(false,[.p (.raw (.int .i64 e))])]
def rP (g R:FF) (m:Nat):Nat->Nat->Int:=fun a b=>if a<m then md g a*R a b else R a b
def GO (g R:FF) (m j:Nat):Nat->Nat->Int:=fun a b=>if a=m/\b<j then 0-R m b else rP g R m a b
theorem CJ {g R:FF} {m a:Nat} (h:a<m):rP g R m a=uX g R a:=by
 funext b;unfold rP;rw[if_pos h];rfl
theorem JW {g R:FF} {m a:Nat} (h: ¬a<m):rP g R m a=R a:=by
 funext b;unfold rP;rw[if_neg h]
theorem JV (g R:FF) (m:Nat):GO g R m 0=rP g R m:=by
 funext a b;unfold GO;rw[if_neg (by omega)]
theorem OR (g R:FF) (m j:Nat):GO g R m j m j=R m j:=by
 unfold GO rP;rw[if_neg (by omega),if_neg (by omega)]
theorem JU (g R:FF) (m j a b:Nat):upd (GO g R m j) m j (0-R m j) a b=GO g R m (j+1) a b:=by
 unfold upd GO;by_cases h1:a=m
 ·subst h1;by_cases h2:b=j
  ·subst h2;simp
  by_cases h3:b<j
  ·simp[h2,h3,show b<j+1 by omega]
  simp[h2,h3,show ¬b<j+1 by omega]
 simp[h1]
theorem MC {g R:FF} {m n:Nat} (hs:md g m= -1) (a b:Nat) (hb:b<n):GO g R m n a b=rP g R (m+1) a b:=by
 unfold GO rP;by_cases h1:a=m
 ·subst h1;rw[if_pos ⟨rfl,hb⟩,if_pos (by omega),hs];omega
 have:a<m+1↔a<m:=by omega
 simp[h1,this]
theorem JX {g R:FF} {m:Nat} (hs:md g m=1) (a b:Nat):rP g R m a b=rP g R (m+1) a b:=by
 unfold rP;by_cases h1:a=m
 ·subst h1;rw[if_neg (by omega),if_pos (by omega),hs];omega
 have:a<m+1↔a<m:=by omega
 simp[this]
theorem ME (g R:FF) (a b:Nat):R a b=rP g R 1 a b:=by
 unfold rP;split
 ·rename_i h;have:a=0:=by omega
  subst this;rw[md];omega
 rfl
theorem MD {g R:FF} {n a:Nat} (ha:a<n) (b:Nat):rP g R n a b=uX g R a b:=by rw[CJ ha]
theorem NL {n:Nat} {h:FF} {s:Int} (hs:s=1\/s= -1) (x y:Nat->Int):BF n h (fun j=>s*x j) y=s*BF n h x y:=by
 rcases hs with rfl|rfl
 ·rw[eG (fun _ _ _ _=>rfl) (fun i _=>Int.one_mul (x i)) (fun _ _=>rfl)];omega
 rw[eG (x':=fun r=> - x r) (fun _ _ _ _=>rfl) (fun i _=>by omega) (fun _ _=>rfl),xa];omega
theorem OS {n:Nat} {h g R:FF} (k:Nat):BF n h (rP g R (k+1) k) (rP g R (k+1) (k+1))=md g k*gmB n h R k (k+1):=by
 rw[CJ (by omega),JW (by omega)];exact NL (n6 g k) _ _
structure Qx (n:Nat) where
 k:Nat
 hk:k+1<=n
theorem Cd (M:List (List Int)) (h:bA M=false):
  CallG Tryz.prog 0 138 18 [bi M] fi ⟨[],yM [] [] 6⟩:=by
 have c1:=gR M;rw[h]at c1;refine cY Tryz.func18 rfl (by kernel_rfl) ?_;rw[Tryz.ntmps18];refine aN fun _ K=>?_;simp only[kd,aa,bi,ae];apply K
 refine bx (bU ?_);refine cX [⟨1,_,_,_,c1⟩] [] fun _ K=>?_;simp only[kd,bi,aa];apply K
 refine dJ rfl ?_;refine aN fun _ K=>?_;simp only[kd,aa];apply K
 refine dy.weak ((nf 2 rfl).trans (nf 3 rfl)) ?_
 (refine cz ⟨.inr rfl,rfl,aH rfl ?_ rfl⟩;simp(disch:=omega) only[kd,Tryz.results18,yM])
theorem z8 (M:List (List Int)) (h:bA M=true) (hn:4<M.length) (hl:M.length<=1000000):
  CallG Tryz.prog 0 138 18 [bi M] fi ⟨[],yM [] [] 7⟩:=by
 have c1:=gR M;rw[h]at c1;have hl':(4:Int)<(M.length:Int):=by omega
 refine cY Tryz.func18 rfl (by kernel_rfl) ?_;rw[Tryz.ntmps18];refine aN fun _ K=>?_;simp only[kd,aa,bi,ae];apply K
 refine bx (bU ?_);refine cX [⟨1,_,_,_,c1⟩] [] fun _ K=>?_;simp only[kd,bi,aa];apply K
 refine dp rfl ?_;refine aN fun _ K=>?_;simp(disch:=omega) only[kd,aa,hl'];apply K
 refine dJ rfl ?_;refine aN fun _ K=>?_;simp only[kd,aa];apply K
 refine dy.weak ((nf 2 rfl).trans (nf 3 rfl)) ?_
 (refine cz ⟨.inr rfl,rfl,aH rfl ?_ rfl⟩;simp(disch:=omega) only[kd,Tryz.results18,yM])
theorem t8 (n:Nat) (h R:FF) (hn1:1<=n) (hn:n<=4) (hr:RedR h n) (inb:InB2 n h 262144 R)
  (cS:CallG Tryz.prog 0 138 46 [bi (bu n n h)] fi ⟨de 0 n n R,.one (.sl 0 0 0 n)⟩):
  CallG Tryz.prog 0 138 18 [bi (bu n n h)] fi ⟨[],yM (bu n n (gmB n h (uX (gmB n h R) R))) (bu n n (trF (uX (gmB n h R) R))) 0⟩:=by
 have hml:=aV n n h;have c1:=gR (bu n n h);rw[pT hn1 (by omega) hr]at c1;have inq:=inb.sg (gmB n h R);have cG:=BY hn1 hn hr inq;obtain⟨g,hg⟩: ∃g,g=gmB n h R:=⟨_,rfl⟩;rw[<- hg]at inq cG⊢;have gd: ∀m a,a<n->GdR n h (rP g R m a):=fun m a ha=>by
  by_cases hm:a<m
  ·rw[CJ hm];exact inq.nr a ha
  rw[JW hm];exact inb.nr a ha
 refine cY Tryz.func18 rfl (by kernel_rfl) ?_;rw[Tryz.ntmps18];refine aN fun _ K=>?_;simp only[kd,aa,bi,ae];apply K
 refine bx (bU ?_);refine cX [⟨1,_,_,_,c1⟩] [] fun _ K=>?_;simp only[kd,bi,aa];apply K
 refine dp rfl ?_;refine aN fun _ K=>?_;simp(disch:=omega) only[kd,aa,hml];apply K
 refine dp rfl (dC ?_);show dy _ _ _ _ _ _ _;refine bN [⟨1,_,_,_,cS,rfl⟩] [] [] fun _ K=>?_;simp(disch:=omega) only[kd,bi,di.a,aa];apply K
 refine dy.weak (aF (tm:=(bi (bu n n h)::j4 (.one (.sl 25 0 0 n)::j16 (j16 (j16 (j16 (j16 (j16 (j4 (jk::jk::[])))))))))) (l:=[(25,de 25 n n R)]) ⟨cx 0 25 _ _ _,trivial⟩ (by simp[wk])) ?_;refine bx (aN fun _ K=>?_);simp only[kd,bi];apply K;refine d8 (G:=Qx n) (fun q=>⟨(bi (bu n n h)::j4 (.one (.sl 25 0 0 n)::.raw (.int .i64 ((q.k+1:Nat):Int))::j16 (j16 (j16 (j16 (j16 (j16 (j4 (jk::[]))))))))),Hm [(25,de 25 n n (rP g R (q.k+1)))]⟩) (fun _=>fi) (fun q=>n-q.k) ⟨0,by omega⟩ ?_ rfl ?_
 ·refine aF ⟨?_,trivial⟩ ?_
  ·show _::_=_::_;rw[cw fun a b _ _=>ME g R a b]
  simp[wk]
 rintro⟨k,hk⟩;simp only;by_cases hm:k+1<n
 ·have e0:IntKind.i64.wrap (((k+1:Nat):Int)-1)=(k:Int):=by rw[show((k+1:Nat):Int)-1=(k:Int) by omega];exact aP (by omega) (by omega)
  have e1:IntKind.i64.wrap (((k+1:Nat):Int)+1)=((k+1+1:Nat):Int):=by rw[show((k+1:Nat):Int)+1=((k+1+1:Nat):Int) by omega];exact aP (by omega) (by omega)
  have hv:BF n h (rP g R (k+1) k) (rP g R (k+1) (k+1))=md g k*g k (k+1):=by rw[OS,hg]
  have hgb:=mF hr.pd inb (show k<n by omega) hm 262144 (by decide);rw[<- hg]at hgb;have hsb:=n6 g k;have hsv: -262144<=md g k*g k (k+1)/\md g k*g k (k+1)<=262144:=by
   rcases hsb with e|e<;>rw[e]<;>omega
  have cI:=Jk (bu n n h) (bG n (rP g R (k+1) k)) (bG n (rP g R (k+1) (k+1)));rw[tT hn1 (by omega) hr ((gd _ _ (by omega)).co hn1 hn hr) ((gd _ _ hm).co hn1 hn hr) (by rw[hv];omega),hv]at cI;have g1:=bO (n:=n) (i:=k) 25 n (by omega);have g2:=bO (n:=n) (i:=k+1) 25 n hm;have r1:=cL (n:=n) n (rP g R (k+1)) (i:=k) (by omega);have r2:=cL (n:=n) n (rP g R (k+1)) (i:=k+1) hm;have sgk:md g (k+1)=if md g k*g k (k+1)<0 then -1 else 1:=rfl
  refine bx (aN fun _ K=>?_);simp(disch:=omega) only[kd,aa,bi];apply K;refine dJ rfl (dC ?_);refine bx (bU ?_);refine ni aZ [⟨10,_,_,_,cI⟩] [] (by kernel_rfl) fun _ K=>?_;simp(disch:=omega) only[kd,bi,iU,Gs,aa,e0,g1,g2,r1,io,r2];apply K
  generalize hvv:md g k*g k (k+1)=v at*
  by_cases hneg:v<0
  ·rw[if_pos hneg]at sgk;refine aN fun _ K=>?_;simp(disch:=omega) only[kd];apply K
   refine dJ rfl ?_;refine aN fun _ K=>?_;simp(disch:=omega) only[kd,aa,g2];apply K
   refine d8 (G:=jD n) (fun q=>⟨(bi (bu n n h)::j4 (.one (.sl 25 0 0 n)::.raw (.int .i64 ((k+1:Nat):Int))::j16 (j16 (j4 (j4 (j4 (jk::rN n::rN q.i::j16 (j16 (j16 (j4 (jk::jk::[]))))))))))),Hm [(25,de 25 n n (GO g R (k+1) q.i))]⟩) (fun _=>fi) (fun q=>n-q.i) ⟨0,by omega⟩ ?_ rfl ?_
   ·refine aF ⟨?_,trivial⟩ ?_
    ·show _::_=_::_;rw[JV]
    simp[wk]
   rintro⟨j,hj⟩;simp only;by_cases hjn:j<n
   ·have r3:=cL (n:=n) n (GO g R (k+1) j) (i:=k+1) hm;have r4:(bG n (GO g R (k+1) j (k+1)))[j]?=some (R (k+1) j):=by rw[aU _ hjn,OR]
    have b1:=(show GdR n h (R (k+1))from inb.nr (k+1) hm).co hn1 hn hr j hjn;have e2:IntKind.i64.wrap (0-R (k+1) j)=0-R (k+1) j:=aP (by omega) (by omega);refine aN fun _ K=>?_;simp(disch:=omega) only[kd,bi];apply K
    refine fB rfl ?_;refine bx (bU ?_);refine aN fun _ K=>?_;simp only[kd];apply K
    refine kZ aZ (by kernel_rfl) fun _ K=>?_;simp(disch:=omega) only[kd,aa,g2,r3,r4,e2,fj];apply K
    show dy _ _ _ _ _ _ _;refine b9 fun _ K=>?_;simp(disch:=omega) only[kd,aP];apply K
    refine⟨⟨j+1,by omega⟩,by simp only;omega,aF ⟨?_,trivial⟩ ?_,rfl⟩
    ·show _::_=_::_;rw[cw fun a b _ _=>JU g R (k+1) j a b]
    simp[wk]
   have hjn:j=n:=by omega
   refine aN fun _ K=>?_;simp(disch:=omega) only[kd,bi];apply K
   refine iM rfl ?_;show dy _ _ _ _ _ _ _;refine b9 fun _ K=>?_;simp only[kd,aa,e1];apply K
   refine⟨⟨k+1,by omega⟩,by simp only;omega,aF ⟨?_,trivial⟩ ?_,rfl⟩
   ·show _::_=_::_;rw[cw fun a b _ hb=>MC (n:=j) sgk a b (by omega)]
   simp[wk]
  rw[if_neg hneg]at sgk;refine aN fun _ K=>?_;simp(disch:=omega) only[kd];apply K
  refine dp rfl (dC ?_);show dy _ _ _ _ _ _ _;refine b9 fun _ K=>?_;simp only[kd,aa,e1];apply K
  refine⟨⟨k+1,by omega⟩,by simp only;omega,aF ⟨?_,trivial⟩ ?_,rfl⟩
  ·show _::_=_::_;rw[cw fun a b _ _=>JX sgk a b]
  simp[wk]
 have hkn:k+1=n:=by omega
 refine bx (aN fun _ K=>?_);simp(disch:=omega) only[kd,aa,bi];apply K;refine dp rfl (y5 ?_);show dy _ _ _ _ _ _ _;have e:de 25 n n (rP g R (k+1))=de 25 n n (uX g R):=by
  show _::_=_::_;rw[hkn,cw fun a b ha _=>MD ha b]
 rw[e];generalize uX g R=Q at*
 clear gd inq inb e hm hk hkn
 -- the Gram matrix
 refine bx (k9 (kY 2 cG (yi _ _ _ _) [] [] (by simp[wk]) (by decide) fun K hK=>?_));simp only[kd];apply hK;clear hK K;refine⟨⟨⟨_,rfl,.inl ⟨rfl,rfl⟩,.inr ⟨25,0,0,n,rfl,dj (d:=25) (n:=n) (c:=n) (f:=Q) rfl,ky (d:=25) (n:=n) (c:=n) (f:=Q) rfl⟩,trivial⟩,⟨74,rfl,fun _=>rfl⟩⟩,by simp,?_⟩;intro K hK;rw[Bw (d:=74) rfl];simp only[kd,aa];apply hK;clear hK K;show dy _ _ _ _ _ _ _;refine dy.weak (aF (tm:=(bi (bu n n h)::j4 (.one (.sl 25 0 0 n)::j4 (.one (.sl 74 0 0 n)::j16 (j16 (j16 (j16 (j16 (j16 (jk::[])))))))))) (l:=[(25,de 25 n n Q),(74,de 74 n n (gmB n h Q))]) ⟨rfl,rfl,trivial⟩ (by simp[wk])) ?_;refine dy.weak ((bW 74 (dj (d:=74) (n:=n) (c:=n) (f:=gmB n h Q) rfl)).trans (aF (tm:=(bi (bu n n h)::j4 (.one (.sl 25 0 0 n)::j4 (bi (bu n n (gmB n h Q))::j16 (j16 (j16 (j16 (j16 (j16 (jk::[])))))))))) (l:=[(25,de 25 n n Q)]) ⟨rfl,trivial⟩ (by
  simp[wk]
  (repeat' apply And.intro)<;>first|rfl|exact(ky (H:=Hm [(25,de 25 n n Q),(74,de 74 n n (gmB n h Q))]) (d:=74) (n:=n) (c:=n) (f:=gmB n h Q) rfl).symm))) ?_
 generalize bu n n (gmB n h Q)=GM at*
 refine aN fun _ K=>?_;simp(disch:=omega) only[kd,aa,bi,hml,ab];apply K
 refine bx (aN fun _ K=>?_);simp only[kd,aa];apply K;refine d8 (G:=jD n) (fun q=>⟨(j4 (jk::.one (.sl 25 0 0 n)::j4 (bi GM::jk::.one (.sl 79 0 0 n)::j16 (j16 (j16 (j16 (j4 (.raw (.int .i64 (n:Int))::rN q.i::j16 (j4 (j4 (jk::[]))))))))))),Hm [(25,de 25 n n Q),(79,kI 79 n n q.i (trF Q))]⟩) (fun _=>fi) (fun q=>n-q.i) ⟨0,by omega⟩ ?_ rfl ?_
 ·refine aF ⟨rfl,?_,trivial⟩ ?_
  ·show[_]=_;simp[kI,gm,bu]
  simp[wk]
 rintro⟨i,hi⟩;simp only;by_cases hm:i<n
 ·have hmi:=aV i n (trF Q);have hsl:(gm 79 (ae i n)).length=i:=by rw[ch,ax]
  have hrl:((bu i n (trF Q)).map jf).length=i:=by rw[aw,hmi]
  refine aN fun _ K=>?_;simp(disch:=omega) only[kd,bi];apply K
  refine fB rfl ?_;refine bx (bU ?_);refine aN fun _ K=>?_;simp only[kd];apply K
  refine aN fun _ K=>?_;simp only[kd,aa];apply K
  refine d8 (G:=jD n) (fun q=>⟨(j4 (jk::.one (.sl 25 0 0 n)::j4 (bi GM::jk::.one (.sl 79 0 0 n)::rN i::j16 (j16 (j16 (j16 (jk::jk::jk::rN n::rN i::jk::jk::.one (.sl 25 0 0 n)::rN n::rN q.i::j16 (j4 ([]))))))))),Hm [(25,de 25 n n Q),(79,Or 79 n n (trF Q) i q.i)]⟩) (fun _=>fi) (fun q=>n-q.i) ⟨0,by omega⟩ ?_ rfl ?_
  ·refine aF ⟨rfl,rfl,trivial⟩ ?_;simp[wk]
  rintro⟨j,hj⟩;simp only;by_cases hm2:j<n
  ·have g1:=bO (n:=n) (i:=j) 25 n hm2;have hr1:=cL n Q (i:=j) hm2;have hjr:=aU (Q j) hm;cases j with
   |zero=>
    rw[Or,DQ (trF Q) hm];refine aN fun _ K=>?_;simp(disch:=omega) only[kd,bi];apply K
    refine fB rfl ?_;refine bx (bU ?_);refine aN fun _ K=>?_;simp(disch:=omega) only[kd,aa,ab,g1];apply K
    refine kZ aZ (by kernel_rfl) fun _ K=>?_;simp(disch:=omega) only[kd,aa,ab,i4 hsl,hr1,hjr,Nat.reduceMul,ah,i5 hsl,hmi,af];apply K
    show dy _ _ _ _ _ _ _;refine b9 fun _ K=>?_;simp(disch:=omega) only[kd,aP];apply K
    refine⟨⟨1,by omega⟩,by simp only;omega,aF ⟨rfl,?_,trivial⟩ ?_,rfl⟩
    ·rfl
    simp[wk]
   |succ j=>
    have h01:(0==i+1)=false:=by simp
    rw[Or,LE];refine aN fun _ K=>?_;simp(disch:=omega) only[kd,bi];apply K
    refine fB rfl ?_;refine bx (bU ?_);refine aN fun _ K=>?_;simp(disch:=omega) only[kd,aa,ab,g1];apply K
    refine kZ aZ (by kernel_rfl) fun _ K=>?_;simp(disch:=omega) only[kd,aa,jf,ab,i4 hsl,hr1,hjr,Nat.reduceMul,ah,i4 hrl,bz,List.map_append,u7,List.map_replicate,AC,zS,i5 hrl,af,h01,i5 hsl,reduceCtorEq,List.length_append,hrl];apply K
    show dy _ _ _ _ _ _ _;refine b9 fun _ K=>?_;simp(disch:=omega) only[kd,aP];apply K
    refine⟨⟨j+1+1,by omega⟩,by simp only;omega,aF ⟨rfl,?_,trivial⟩ ?_,rfl⟩
    ·show _=LE 79 n n (trF Q) i (j+1);rw[LE,jf,nZ (j+1)];rfl
    simp[wk]
  have hjc:j=n:=by omega
  subst hjc;refine aN fun _ K=>?_;simp(disch:=omega) only[kd,bi];apply K
  refine iM rfl ?_;show dy _ _ _ _ _ _ _;rw[Iu _ (by omega) hm];refine b9 fun _ K=>?_;simp(disch:=omega) only[kd,aP];apply K
  refine⟨⟨i+1,by omega⟩,by simp only;omega,aF ⟨rfl,rfl,trivial⟩ ?_,rfl⟩;simp[wk]
 have hin:i=n:=by omega
 subst hin;refine aN fun _ K=>?_;simp(disch:=omega) only[kd,bi];apply K
 refine iM rfl ?_;show dy _ _ _ _ _ _ _;rw[mG];refine dy.weak ((bW 79 (dj (d:=79) (n:=i) (c:=i) (f:=trF Q) rfl)).trans (aF (tm:=(j4 (j4 (jk::jk::bi GM::jk::bi (bu i i (trF Q))::j16 (j16 (j16 (j16 (j16 (j4 (j4 (j4 (jk::jk::jk::[])))))))))))) (l:=[]) trivial (by
  simp[wk]
  (repeat' apply And.intro)<;>first|rfl|exact(ky (H:=Hm [(25,de 25 i i Q),(79,de 79 i i (trF Q))]) (d:=79) (n:=i) (c:=i) (f:=trF Q) rfl).symm))) ?_
 refine aN fun _ K=>?_;simp only[kd,aa,bi];apply K
 (refine cz ⟨.inr rfl,rfl,aH rfl ?_ rfl⟩;simp(disch:=omega) only[kd,Tryz.results18,yM])
theorem Ce (n:Nat) (h R:FF) (hn1:1<=n) (hn:n<=4) (hr:RedR h n) (hR:RchB n h idF R):
  CallG Tryz.prog 0 138 18 [bi (bu n n h)] fi ⟨[],yM (bu n n (gmB n h (uX (gmB n h R) R))) (bu n n (trF (uX (gmB n h R) R))) 0⟩:=
 t8 n h R hn1 hn hr (As hR (InB2.one hn1 (by omega) hr)).1 (Cg n h R hn1 hn hr hR)
section
variable {n:Nat}
theorem Ll (h t:FF) (i a b:Nat):cngF n h (Nz n t (.neg i)) a b=(if a=i then -1 else 1)*(if b=i then -1 else 1)*cngF n h t a b:=by
 have e: ∀c,(fun r=>Nz n t (.neg i) r c)=if c=i then fun r=> - t r i else fun r=>t r c:=fun c=>by
  by_cases e1:c=i
  ·subst e1;funext r;simp[Nz,dU]
  funext r;simp[Nz,dU,e1]
 rw[gB,e,e,gB];by_cases ha:a=i
 ·subst ha;by_cases hb:b=a
  ·subst hb;simp only[if_true];rw[xa,C5];omega
  simp only[if_true,if_neg hb];rw[xa];omega
 by_cases hb:b=i
 ·subst hb;simp only[if_true,if_neg ha];rw[C5];omega
 simp only[if_neg ha,if_neg hb];omega
theorem uS {a:FF}: ∀m i op,Ek n a m i=some op->i<=op.i/\op.i<i+m/\(match op with
  | .swp j=>0<j/\a j j<a (j-1) (j-1)
  | .rep j c=>c<3^j/\nrm n a (cnd j c)<a j j
  | .neg j=>0<j/\a (j-1) j<0)
 |0,_,_,h=>by cases h
 |m+1,i,op,h=>by
  rw[Ek]at h;split at h
  ·rename_i hc;injection h with h
   subst h;exact⟨ac _,by show i<i+(m+1);omega,hc⟩
  split at h
  ·rename_i c hc;injection h with h
   subst h;obtain⟨_,h1,h2⟩:=tG _ _ _ hc;exact⟨ac _,by show i<i+(m+1);omega,by omega,h2⟩
  split at h
  ·rename_i hc;injection h with h
   subst h;exact⟨ac _,by show i<i+(m+1);omega,hc⟩
  obtain⟨h1,h2,h3⟩:=uS m (i+1) op h;exact⟨by omega,by omega,h3⟩
structure NT (n:Nat) (h:FF) (W:Int) (t:FF):Prop where
 nr: ∀a,a<n->cngF n h t a a<=W
 dt:(dk t n).natAbs=1
theorem NT.op {h t:FF} {W:Int} (ht:NT n h W t) {op:Nl} (ho:Ek n (cngF n h t) n 0=some op):NT n h W (Nz n t op):=by
 obtain⟨_,h1,h2⟩:=uS n 0 op ho;cases op with
 |swp i=>
  have hi:i<n:=by simpa[Nl.i] using h1
  obtain⟨h0,_⟩:=h2;refine⟨fun a ha=>?_,?_⟩
  ·have e2:(fun r=>Nz n t (.swp i) r a)=if a=i then fun r=>t r (i-1)else if a=i-1 then fun r=>t r i else fun r=>t r a:=by
    by_cases e1:a=i
    ·subst e1;simp[Nz]
    by_cases e3:a=i-1
    ·rw[if_neg e1,if_pos e3];funext r;exact(if_neg e1).trans (if_pos e3)
    simp[Nz,e1,e3]
   rw[gB,e2];split
   ·rw[<- gB];exact ht.nr _ (by omega)
   split
   ·rw[<- gB];exact ht.nr _ hi
   rw[<- gB];exact ht.nr _ ha
  have:=tp (R:=t) (n:=n) (a:=i) (b:=i-1) hi (by omega) (by omega);show(dk (fun r c=>if c=i then t r (i-1)else if c=i-1 then t r i else t r c) n).natAbs=1;rw[this,Int.natAbs_neg];exact ht.dt
 |rep i c=>
  have hi:i<n:=by simpa[Nl.i] using h1
  obtain⟨_,h3⟩:=h2;refine⟨fun a ha=>?_,?_⟩
  ·by_cases e:a=i
   ·subst e;show cngF n h (dU t a (mV n t (cnd a c))) a a<=W;rw[HJ];have:=ht.nr a ha;omega
   show cngF n h (dU t i (mV n t (cnd i c))) a a<=W;rw[zq _ e e];exact ht.nr a ha
  show(dk (dU t i (mV n t (cnd i c))) n).natAbs=1;rw[DE hi,show cnd i c i=1 by simp[cnd],Int.one_mul];exact ht.dt
 |neg i=>
  have hi:i<n:=by simpa[Nl.i] using h1
  refine⟨fun a ha=>?_,?_⟩
  ·rw[Ll];have:=ht.nr a ha;split<;>omega
  show(dk (dU t i (fun r=> - t r i)) n).natAbs=1;rw[wg hi,Int.natAbs_neg];exact ht.dt
end
section
variable {n:Nat}
theorem wW {f:FF} (hs:SymF f n) (hp: ∀k,k<n->0<dk f (k+1)) (x:Nat->Int) {k:Nat} (hk:k<n):
  dk f k*BF n (bk f (k+1)) x x=dk f (k+1)*BF n (bk f k) x x-cP (fun j=>bk f k k j*x j) n*cP (fun j=>bk f k k j*x j) n:=by
 have hne: ∀t,t<n->dk f (t+1)≠0:=fun t ht=>by have:=hp t ht;omega
 have e0:dk f k*BF n (bk f (k+1)) x x=BF n (fun i j=>dk f k*bk f (k+1) i j+0*bk f k i j) x x:=by rw[rX];omega
 rw[e0,eG (f':=fun i j=>dk f (k+1)*bk f k i j+(-1)*(bk f k k i*bk f k k j)) (fun i j hi hj=>by
  have:=sylv f k (fun t ht=>hne t (by omega)) i j;have e:=j8 hs k (by omega) (fun t ht=>hne t (by omega)) i k hi (by omega);rw[e]at this;omega) (fun _ _=>rfl) (fun _ _=>rfl),rX,C6,bf n (F:=fun i=>x i*bk f k k i) (G:=fun j=>bk f k k j*x j) (fun i _=>Int.mul_comm _ _)]
 omega
theorem AN {f:FF} (hr:PD f n) (x:Nat->Int) {N:Int} (hN:BF n f x x<=N): ∀k,k<=n->BF n (bk f k) x x<=N*dk f k
 |0,_=>by
  rw[dv,Int.mul_one,eG (fun i j _ _=>dG f i j) (fun _ _=>rfl) (fun _ _=>rfl)];exact hN
 |k+1,hk=>by
  have ih:=AN hr x hN k (by omega);have hkey:=wW hr.1 hr.2 x (show k<n by omega);have hd:0<dk f k:=j9 fun t ht=>hr.2 t (by omega)
  have hd1:=hr.2 k (by omega);have hsq:0<=cP (fun j=>bk f k k j*x j) n*cP (fun j=>bk f k k j*x j) n:=by
   rcases Int.le_total 0 (cP (fun j=>bk f k k j*x j) n)with h|h
   ·exact Int.mul_nonneg h h
   exact Int.mul_nonneg_of_nonpos_of_nonpos h h
  have h1:dk f (k+1)*BF n (bk f k) x x<=dk f (k+1)*(N*dk f k):=Int.mul_le_mul_of_nonneg_left ih (by omega);have h2:dk f k*BF n (bk f (k+1)) x x<=dk f k*(N*dk f (k+1)):=by
   have e:dk f (k+1)*(N*dk f k)=dk f k*(N*dk f (k+1)):=by grind
   rw[<- e];omega
  exact Int.le_of_mul_le_mul_left h2 hd
theorem IF {f:FF} (hr:RedR f n): ∀k,k<n->dk f k<=((2^k:Nat):Int)*dk f (k+1)
 |0,h=>by
  have h1:=hr.2.1 0 h;have h2:((2^0:Nat):Int)=1:=rfl;rw[dv,h2,Int.one_mul];omega
 |k+1,h=>by
  have ih:=IF hr k (by omega);obtain⟨hs,hl⟩:=hr.2.2.2 k h;have hd1:=hr.2.1 k (by omega);have hd2:=hr.2.1 (k+1) h;unfold KN at hl;have hsz:=hs (k+1) h (by omega);generalize bk f k (k+1) k=l at*
  generalize dk f (k+1+1)=d2 at*
  generalize dk f (k+1)=d1 at*
  generalize dk f k=d0 at*
  have h4:4*(l*l)<=d1*d1:=by
   have e:(2*l.natAbs)*(2*l.natAbs)<=d1.toNat*d1.toNat:=Nat.mul_le_mul (by omega) (by omega);have e1:(((2*l.natAbs)*(2*l.natAbs):Nat):Int)=4*(l*l):=by
    have:((l.natAbs*l.natAbs:Nat):Int)=l*l:=Int.natAbs_mul_self;rw[<- this];simp only[Int.natCast_mul];grind
   have e2:((d1.toNat*d1.toNat:Nat):Int)=d1*d1:=by
    have:((d1.toNat:Nat):Int)=d1:=by omega
    rw[Int.natCast_mul,this]
   have:=Int.ofNat_le.2 e;rw[e1,e2]at this;exact this
  have h5:d1*d1<=2*(d0*d2):=by
   have e:3*d1*d1=3*(d1*d1):=by grind
   omega
  have h6:d0*d2<=((2^k:Nat):Int)*d1*d2:=Int.mul_le_mul_of_nonneg_right ih (by omega);have h7:d1*d1<=d1*(((2^(k+1):Nat):Int)*d2):=by
   have e:d1*(((2^(k+1):Nat):Int)*d2)=2*(((2^k:Nat):Int)*d1*d2):=by
    rw[Nat.pow_succ,Int.natCast_mul];grind
   omega
  exact Int.le_of_mul_le_mul_left h7 hd1
theorem Fc {f:FF} (hr:RedR f n) (x:Nat->Int) {N:Int} (h0:0<=N) (hN:BF n f x x<=N) {M:Nat} (hM:N*((2^n:Nat):Int)<=(M:Int)*(M:Int)): ∀m k,m+k+1=n->(x k).natAbs<=M*2^m:=fun m=>by
 induction m using Nat.strongRecOn with
 |_ m ih=>
  intro k hk;have hp:=hr.pd;have hkn:k<n:=by omega
  have hne: ∀t,t<n->dk f (t+1)≠0:=fun t ht=>by have:=hr.2.1 t ht;omega
  have hd1:=hr.2.1 k hkn;have hd:0<dk f k:=j9 fun t ht=>hr.2.1 t (by omega)
  have hkey:=wW hp.1 hp.2 x hkn;have hle:=AN hp x hN k (by omega);have hq1:=(n9 hp.1 hp.2 x (n-(k+1)) (k+1) (by omega)).1;have hll:=IF hr k hkn
  -- the sum
  obtain⟨L,hL⟩: ∃L,L=cP (fun j=>bk f k k j*x j) n:=⟨_,rfl⟩;rw[<- hL]at hkey;have hLL:L*L<=(M*dk f (k+1))*(M*dk f (k+1)):=by
   have a1:0<=dk f k*BF n (bk f (k+1)) x x:=Int.mul_nonneg (by omega) hq1;have a2:dk f (k+1)*BF n (bk f k) x x<=dk f (k+1)*(N*dk f k):=Int.mul_le_mul_of_nonneg_left hle (by omega);have a3:dk f (k+1)*(N*dk f k)<=dk f (k+1)*(N*(((2^k:Nat):Int)*dk f (k+1))):=Int.mul_le_mul_of_nonneg_left (Int.mul_le_mul_of_nonneg_left hll h0) (by omega);have a4:N*((2^k:Nat):Int)<=(M:Int)*(M:Int):=by
    have:((2^k:Nat):Int)<=((2^n:Nat):Int):=Int.ofNat_le.2 (Nat.pow_le_pow_right (by omega) (by omega));exact Int.le_trans (Int.mul_le_mul_of_nonneg_left this h0) hM
   have a5:N*((2^k:Nat):Int)*(dk f (k+1)*dk f (k+1))<=(M:Int)*(M:Int)*(dk f (k+1)*dk f (k+1)):=Int.mul_le_mul_of_nonneg_right a4 (Int.mul_nonneg (by omega) (by omega));have e1:dk f (k+1)*(N*(((2^k:Nat):Int)*dk f (k+1)))=N*((2^k:Nat):Int)*(dk f (k+1)*dk f (k+1)):=by grind
   have e2:(M*dk f (k+1))*(M*dk f (k+1))=(M:Int)*(M:Int)*(dk f (k+1)*dk f (k+1)):=by grind
   omega
  have hLa:L.natAbs<=M*(dk f (k+1)).toNat:=by
   have e:(M:Int)*dk f (k+1)=((M*(dk f (k+1)).toNat:Nat):Int):=by
    have:(((dk f (k+1)).toNat:Nat):Int)=dk f (k+1):=by omega
    rw[Int.natCast_mul,this]
   rw[e]at hLL;have:=J5 hLL;omega
  -- the other coordinates
  have hrest: ∀q,k+1+q<=n->2*(cP (fun j=>bk f k k j*x j) (k+1+q)-dk f (k+1)*x k).natAbs<=(dk f (k+1)).toNat*(M*(2^(m+1)-2^(m+1-q))):=fun q=>by
   induction q with
   |zero=>
    intro _;have e:cP (fun j=>bk f k k j*x j) (k+1)=dk f (k+1)*x k:=by
     rw[cP,bf k (G:=fun _=>0) (fun j hj=>by rw[xv hp.1 hne (by omega) hj (by omega),Int.zero_mul]),eQ,b8];omega
    rw[Nat.add_zero,e];simp
   |succ q ihq=>
    intro hq;have ih1:=ihq (by omega);rw[<- Nat.add_assoc,cP];have hx:=ih (n-(k+1+q)-1) (by omega) (k+1+q) (by omega);have hsz:=(hr.2.2.2 k (by omega)).1 (k+1+q) (by omega) (by omega);have hsym:=j8 hp.1 k (by omega) (fun t ht=>hne t (by omega)) k (k+1+q) hkn (by omega);rw[hsym];rw[show n-(k+1+q)-1=m-1-q by omega]at hx;have hpw:2^(m+1-q)=2*2^(m+1-(q+1))/\2^(m+1-(q+1))=2*2^(m-1-q):=by
     refine⟨?_,?_⟩
     ·rw[show m+1-q=(m+1-(q+1))+1 by omega,Nat.pow_succ];omega
     rw[show m+1-(q+1)=(m-1-q)+1 by omega,Nat.pow_succ];omega
    have hpl:2^(m+1-q)<=2^(m+1):=Nat.pow_le_pow_right (by omega) (by omega);have hD:(((dk f (k+1)).toNat:Nat):Int)=dk f (k+1):=by omega
    have e5:cP (fun j=>bk f k k j*x j) (k+1+q)+bk f k (k+1+q) k*x (k+1+q)-dk f (k+1)*x k=(cP (fun j=>bk f k k j*x j) (k+1+q)-dk f (k+1)*x k)+bk f k (k+1+q) k*x (k+1+q):=by omega
    rw[e5];generalize cP (fun j=>bk f k k j*x j) (k+1+q)-dk f (k+1)*x k=S at*
    generalize bk f k (k+1+q) k=l at*
    generalize x (k+1+q)=y at*
    generalize(dk f (k+1)).toNat=D at*
    have hl:2*l.natAbs<=D:=by omega
    have hly:2*(l*y).natAbs<=D*(M*2^(m-1-q)):=by
     rw[Int.natAbs_mul,<- Nat.mul_assoc];exact Nat.mul_le_mul hl hx
    have hab:=Int.natAbs_add_le S (l*y);generalize 2^(m-1-q)=P at*
    generalize 2^(m+1)=A at*
    obtain⟨p1,p2⟩:=hpw;rw[p1,p2]at ih1 hpl;rw[p2];have h6:D*(M*(A-2*(2*P)))+D*(M*P)<=D*(M*(A-2*P)):=by
     rw[<- Nat.mul_add,<- Nat.mul_add];exact Nat.mul_le_mul_left _ (Nat.mul_le_mul_left _ (by omega))
    omega
  have hfin:=hrest m (by omega);rw[show k+1+m=n by omega,<- hL,show m+1-m=1 by omega]at hfin;have hD:(((dk f (k+1)).toNat:Nat):Int)=dk f (k+1):=by omega
  have hDp:0<(dk f (k+1)).toNat:=by omega
  have hdx:(dk f (k+1)*x k).natAbs=(dk f (k+1)).toNat*(x k).natAbs:=by
   rw[Int.natAbs_mul];congr 1;omega
  have hab:(dk f (k+1)*x k).natAbs<=L.natAbs+(L-dk f (k+1)*x k).natAbs:=by omega
  rw[hdx]at hab;have hpw:2^(m+1)=2*2^m:=by rw[Nat.pow_succ];omega
  have hpos:0<2^m:=Nat.pow_pos (by omega);generalize(L-dk f (k+1)*x k).natAbs=r at*
  generalize(dk f (k+1)).toNat=D at*
  generalize(x k).natAbs=z at*
  generalize L.natAbs=w at*
  rw[hpw]at hfin;generalize 2^m=P at*
  have h7:2*(M*D)+D*(M*(2*P-2^1))=D*(2*(M*P)):=by
   have e:2*P-2^1=2*(P-1):=by omega
   rw[e];obtain⟨p,rfl⟩: ∃p,P=p+1:=⟨P-1,by omega⟩;rw[Nat.add_sub_cancel];grind
  have h8:D*(2*z)<=D*(2*(M*P)):=by
   have e:D*(2*z)=2*(D*z):=by grind
   omega
  have:=Nat.le_of_mul_le_mul_left h8 hDp;omega
end
section
variable {n:Nat}
def l1 (y:Nat->Int):Nat->Nat
 |0=>0
 |k+1=>l1 y k+(y k).natAbs
end
section
variable {n:Nat}
theorem OY {F:Nat->Int} {p q m:Nat} (hp:p<m) (hq:q<m):cP (fun a=>if a=p then F q else if a=q then F p else F a) m=cP F m:=by
 by_cases h:p=q
 ·subst h;exact bf m fun a _=>by
   by_cases e:a=p
   ·subst e;rw[if_pos rfl]
   rw[if_neg e,if_neg e]
 have h1:=yu (F:=F) (G:=fun a=>if a=p then F q else F a) hp (fun a _ hne=>(if_neg hne).symm);have h2:=yu (F:=fun a=>if a=p then F q else F a) (G:=fun a=>if a=p then F q else if a=q then F p else F a) hq (fun a _ hne=>by
  by_cases e:a=p
  ·rw[if_pos e,if_pos e]
  rw[if_neg e,if_neg e,if_neg hne])
 rw[if_pos rfl]at h1;rw[if_neg (Ne.symm h),if_pos rfl,if_neg (Ne.symm h)]at h2;omega
end
section
variable {n:Nat}
def GZ (n:Nat) (t:FF):Prop:= ∀v:Nat->Int,∃y,∀j,j<n->mV n t y j=v j
theorem GZ.of {t t':FF} (h:GZ n t) (k: ∀x,∃y,∀j,j<n->mV n t' y j=mV n t x j):GZ n t':=fun v=>by
 obtain⟨x,hx⟩:=h v;obtain⟨y,hy⟩:=k x;exact⟨y,fun j hj=>by rw[hy j hj,hx j hj]⟩
theorem GZ.one:GZ n (fun i j=>if i=j then 1 else 0):=fun v=>⟨v,fun j hj=>by
 show cP (fun a=>v a*(if j=a then 1 else 0)) n=v j;rw[i6 hj (fun p _ hne=>by rw[if_neg (Ne.symm hne),Int.mul_zero]),if_pos rfl,Int.mul_one]⟩
theorem GZ.congr {t t':FF} (h:GZ n t) (e: ∀i j,i<n->j<n->t' i j=t i j):GZ n t':=h.of fun x=>⟨x,fun j hj=>bf n fun a ha=>by rw[e j a hj ha]⟩
theorem GZ.swap {t:FF} (h:GZ n t) {p q:Nat} (hp:p<n) (hq:q<n):GZ n (fun i c=>if c=p then t i q else if c=q then t i p else t i c):=h.of fun x=>
 ⟨fun a=>if a=p then x q else if a=q then x p else x a,fun j _=>by
  unfold mV;rw[<- OY (F:=fun a=>x a*t j a) hp hq];refine bf n fun a _=>?_
  show(if a=p then x q else if a=q then x p else x a)*(if a=p then t j q else if a=q then t j p else t j a)=if a=p then x q*t j q else if a=q then x p*t j p else x a*t j a
  by_cases e:a=p
  ·rw[if_pos e,if_pos e,if_pos e]
  rw[if_neg e,if_neg e,if_neg e];by_cases e2:a=q
  ·rw[if_pos e2,if_pos e2,if_pos e2]
  rw[if_neg e2,if_neg e2,if_neg e2]⟩
/-! The program's loop. -/
/-! The reference's loop. -/
end
theorem PZ {n:Nat} {X:Nat->Int} (h: ∀j,j<n->X j=0):lc fI (bG n X)=ae n [.p (.raw (.int .i64 0))]:=by
 have e:bG n X=ae n 0:=by
  apply List.ext_getElem?;intro j;by_cases hj:j<n
  ·rw[aU _ hj,List.getElem?_replicate,if_pos hj,h j hj]
  rw[aq (by rw[bz];omega),aq (by simp;omega)]
 rw[e,lc,List.map_replicate];rfl
def og (M:List (List Int)) (n:Nat):Prop:=M.length=n/\ ∀q∈M,q.length=n
structure PE (M:List (List Int)) (n:Nat) where
 i:Nat
 hi:i<=M.length
 ok: ∀a,a<i-> ∀q,M[a]?=some q->q.length=n
theorem J4 {M:List (List Int)} {n:Nat} (h: ∀a,a<M.length-> ∀q,M[a]?=some q->q.length=n): ∀q∈M,q.length=n:=fun q hq=>by
 obtain⟨a,ha⟩:=List.mem_iff_getElem?.1 hq;exact h a (List.getElem?_eq_some_iff.1 ha).1 q ha
structure Q2 (x y:List Int) where
 i:Nat
 hi:i<=x.length
 ok: ∀a,a<i->x[a]?=y[a]?
structure Q3 (x y:List (List Int)) where
 i:Nat
 hi:i<=x.length
 ok: ∀a,a<i->x[a]?=y[a]?
theorem Ii {α:Type} {x y:List α} (hl:x.length=y.length) (h: ∀a,a<x.length->x[a]?=y[a]?):x=y:=by
 apply List.ext_getElem?;intro a;by_cases ha:a<x.length
 ·exact h a ha
 rw[aq (by omega),aq (by omega)]
theorem jQ (M:List (List Int)) (n:Nat) (r:Bool) (hr:r=true↔og M n) (hb:M.length<=1000000):CallC Tryz.prog 70 [bi M,.raw (.int .i64 (n:Int))] ⟨[],.raw (.bool r)⟩:=by
 refine aJ Tryz.func70 rfl (by kernel_rfl) ?_;rw[Tryz.ntmps70];refine aD fun _ K=>?_;simp only[kd,bi,aa,ae];apply K
 refine aE (aD fun _ K=>?_);simp only[kd,aa];apply K;refine aT (G:=PE M n) (fun g=>⟨(bi M::rN n::j4 (jk::bi M::rN M.length::rN g.i::j4 (j4 (j4 ([]))))),Hm []⟩) (fun g=>M.length-g.i) ⟨0,by omega,fun a ha=>by omega⟩ ?_ ?_
 ·refine aF trivial ?_;simp[wk]
 rintro⟨i,hi,ok⟩;simp only;by_cases hm:i<M.length
 ·obtain⟨q,hq⟩: ∃q,M[i]?=some q:=⟨M[i],ar hm⟩;refine aD fun _ K=>?_;simp(disch:=omega) only[kd,bi];apply K
  refine bC rfl ?_;refine aE (aK ?_);refine aD fun _ K=>?_;simp(disch:=omega) only[kd,aa,hq,fR];apply K
  by_cases hql:q.length=n
  ·refine aD fun _ K=>?_;simp(disch:=omega) only[kd,aa,hql];apply K
   refine aO rfl (aL ?_);show bs _ _ _ _;refine aM fun _ K=>?_;simp(disch:=omega) only[kd,aP];apply K
   refine⟨⟨i+1,by omega,fun a ha q' hq'=>?_⟩,by simp only;omega,aF trivial ?_⟩
   ·by_cases e:a=i
    ·subst e;rw[hq]at hq';injection hq' with hq'
     rw[<- hq'];exact hql
    exact ok a (by omega) q' hq'
   simp[wk]
  have hr0:r=false:=by
   cases r with
   |false=>rfl
   |true=>exact absurd ((hr.1 rfl).2 q (List.mem_of_getElem? hq)) hql
  subst hr0;refine aD fun _ K=>?_;simp(disch:=omega) only[kd,aa];apply K
  refine aS rfl ?_;refine aD fun _ K=>?_;simp only[kd];apply K
  (refine aI ⟨.inr rfl,aH rfl ?_ rfl⟩;simp(disch:=omega) only[kd,Tryz.results70])
 have hall:=J4 fun a ha=>ok a (by omega)
 have hd:r=decide ((M.length:Int)=(n:Int)):=by
  cases r with
  |true=>rw[decide_eq_true (by have:=(hr.1 rfl).1;omega)]
  |false=>
   rw[decide_eq_false];intro h;have:=hr.2 ⟨by omega,hall⟩;cases this
 rw[hd];refine aD fun _ K=>?_;simp(disch:=omega) only[kd,bi];apply K
 refine bJ rfl ?_;show bs _ _ _ _;refine aD fun _ K=>?_;simp only[kd,aa];apply K
 (refine aI ⟨.inr rfl,aH rfl ?_ rfl⟩;simp(disch:=omega) only[kd,Tryz.results70])
theorem DM (x y:List Int) (r:Bool) (hr:r=true↔x=y) (hb:x.length<=1000000):CallC Tryz.prog 73 [iU x,iU y] ⟨[],.raw (.bool r)⟩:=by
 by_cases hl:x.length=y.length
 ·have hl':(x.length:Int)=(y.length:Int):=by omega
  refine aJ Tryz.func73 rfl (by kernel_rfl) ?_;rw[Tryz.ntmps73];refine aD fun _ K=>?_;simp only[kd,iU,aa,ae];apply K
  refine aE (aD fun _ K=>?_);simp(disch:=omega) only[kd,aa];apply K;refine aO rfl (aL ?_);show bs _ _ _ _;refine aE (aD fun _ K=>?_);simp only[kd,aa];apply K;refine aT (G:=Q2 x y) (fun g=>⟨(iU x::iU y::j4 (j4 (jk::jk::rN x.length::rN g.i::j4 (j4 (j4 ([])))))),Hm []⟩) (fun g=>x.length-g.i) ⟨0,by omega,fun a ha=>by omega⟩ ?_ ?_
  ·refine aF trivial ?_;simp[wk]
  rintro⟨i,hi,ok⟩;simp only;by_cases hm:i<x.length
  ·obtain⟨p,hp⟩: ∃p,x[i]?=some p:=⟨x[i],ar hm⟩;obtain⟨q,hq⟩: ∃q,y[i]?=some q:=⟨y[i]'(by omega),ar (by omega)⟩;have hm2:i<y.length:=by omega
   by_cases e:p=q
   ·refine aD fun _ K=>?_;simp(disch:=omega) only[kd,iU];apply K
    refine bC rfl ?_;refine aE (aK ?_);refine aD fun _ K=>?_;simp only[kd];apply K
    refine cK aZ (by kernel_rfl) fun _ K=>?_;simp(disch:=omega) only[kd,aa,hp,hq];apply K
    refine aO rfl (aL ?_);show bs _ _ _ _;refine aM fun _ K=>?_;simp(disch:=omega) only[kd,aP];apply K
    refine⟨⟨i+1,by omega,fun a ha=>?_⟩,by simp only;omega,aF trivial ?_⟩
    ·by_cases e2:a=i
     ·subst e2;rw[hp,hq,e]
     exact ok a (by omega)
    simp[wk]
   have hr0:r=false:=by
    cases r with
    |false=>rfl
    |true=>
     have:=hr.1 rfl;subst this;rw[hp]at hq;injection hq with hq
     exact absurd hq e
   subst hr0;refine aD fun _ K=>?_;simp(disch:=omega) only[kd,iU];apply K
   refine bC rfl ?_;refine aE (aK ?_);refine aD fun _ K=>?_;simp only[kd];apply K
   refine cK aZ (by kernel_rfl) fun _ K=>?_;simp(disch:=omega) only[kd,aa,hp,hq];apply K
   refine aS rfl ?_;refine aD fun _ K=>?_;simp only[kd];apply K
   (refine aI ⟨.inr rfl,aH rfl ?_ rfl⟩;simp(disch:=omega) only[kd,Tryz.results73])
  have hr1:r=true:=hr.2 (Ii hl fun a ha=>ok a (by omega));subst hr1;refine aD fun _ K=>?_;simp(disch:=omega) only[kd,iU];apply K
  refine bJ rfl ?_;show bs _ _ _ _;refine aD fun _ K=>?_;simp only[kd];apply K
  (refine aI ⟨.inr rfl,aH rfl ?_ rfl⟩;simp(disch:=omega) only[kd,Tryz.results73])
 have hr0:r=false:=by
  cases r with
  |false=>rfl
  |true=>exact absurd (congrArg List.length (hr.1 rfl)) hl
 subst hr0;refine aJ Tryz.func73 rfl (by kernel_rfl) ?_;rw[Tryz.ntmps73];refine aD fun _ K=>?_;simp only[kd,iU,aa,ae];apply K
 refine aE (aD fun _ K=>?_);simp(disch:=omega) only[kd,aa];apply K;refine aS rfl ?_;refine aD fun _ K=>?_;simp only[kd];apply K
 (refine aI ⟨.inr rfl,aH rfl ?_ rfl⟩;simp(disch:=omega) only[kd,Tryz.results73])
abbrev PM:TV:= .raw (.func (.func 73) #[] #[])
theorem zC (x y:List (List Int)) (r:Bool) (hr:r=true↔x=y) (hb:x.length<=1000000) (hb2: ∀p∈x,p.length<=1000000):CallC Tryz.prog 72 [bi x,bi y,PM] ⟨[],.raw (.bool r)⟩:=by
 by_cases hl:x.length=y.length
 ·have hl':(x.length:Int)=(y.length:Int):=by omega
  refine aJ Tryz.func72 rfl (by kernel_rfl) ?_;rw[Tryz.ntmps72];refine aD fun _ K=>?_;simp only[kd,bi,aa,ae];apply K
  refine aE (aD fun _ K=>?_);simp(disch:=omega) only[kd,aa];apply K;refine aO rfl (aL ?_);show bs _ _ _ _;refine aE (aD fun _ K=>?_);simp only[kd,aa];apply K;refine aT (G:=Q3 x y) (fun g=>⟨(bi x::bi y::PM::j4 (j4 (j4 (bi x::rN x.length::rN g.i::j4 (j4 (j4 (jk::jk::[]))))))),Hm []⟩) (fun g=>x.length-g.i) ⟨0,by omega,fun a ha=>by omega⟩ ?_ ?_
  ·refine aF trivial ?_;simp[wk]
  rintro⟨i,hi,ok⟩;simp only;by_cases hm:i<x.length
  ·obtain⟨p,hp⟩: ∃p,x[i]?=some p:=⟨x[i],ar hm⟩;obtain⟨q,hq⟩: ∃q,y[i]?=some q:=⟨y[i]'(by omega),ar (by omega)⟩;have hm2:i<y.length:=by omega
   by_cases e:p=q
   ·have cE:=DM p q true (by simp[e]) (hb2 p (List.mem_of_getElem? hp));refine aD fun _ K=>?_;simp(disch:=omega) only[kd,bi];apply K
    refine bC rfl ?_;refine aE (aK ?_);refine aD fun _ K=>?_;simp(disch:=omega) only[kd,aa,hp,fR];apply K
    refine aD fun _ K=>?_;simp(disch:=omega) only[kd,aa,hq,fR];apply K
    refine aG [⟨3,_,_,_,cE⟩] [] fun _ K=>?_;simp(disch:=omega) only[kd,iU,aa,Array.isEmpty,Array.size];apply K
    refine aO rfl (aL ?_);show bs _ _ _ _;refine aM fun _ K=>?_;simp(disch:=omega) only[kd,aP];apply K
    refine⟨⟨i+1,by omega,fun a ha=>?_⟩,by simp only;omega,aF trivial ?_⟩
    ·by_cases e2:a=i
     ·subst e2;rw[hp,hq,e]
     exact ok a (by omega)
    simp[wk]
   have hr0:r=false:=by
    cases r with
    |false=>rfl
    |true=>
     have:=hr.1 rfl;subst this;rw[hp]at hq;injection hq with hq
     exact absurd hq e
   subst hr0;have cE:=DM p q false (by simp[e]) (hb2 p (List.mem_of_getElem? hp));refine aD fun _ K=>?_;simp(disch:=omega) only[kd,bi];apply K
   refine bC rfl ?_;refine aE (aK ?_);refine aD fun _ K=>?_;simp(disch:=omega) only[kd,aa,hp,fR];apply K
   refine aD fun _ K=>?_;simp(disch:=omega) only[kd,aa,hq,fR];apply K
   refine aG [⟨3,_,_,_,cE⟩] [] fun _ K=>?_;simp(disch:=omega) only[kd,iU,aa,Array.isEmpty,Array.size];apply K
   refine aS rfl ?_;refine aD fun _ K=>?_;simp only[kd];apply K
   (refine aI ⟨.inr rfl,aH rfl ?_ rfl⟩;simp(disch:=omega) only[kd,Tryz.results72])
  have hr1:r=true:=hr.2 (Ii hl fun a ha=>ok a (by omega));subst hr1;refine aD fun _ K=>?_;simp(disch:=omega) only[kd,bi];apply K
  refine bJ rfl ?_;show bs _ _ _ _;refine aD fun _ K=>?_;simp only[kd];apply K
  (refine aI ⟨.inr rfl,aH rfl ?_ rfl⟩;simp(disch:=omega) only[kd,Tryz.results72])
 have hr0:r=false:=by
  cases r with
  |false=>rfl
  |true=>exact absurd (congrArg List.length (hr.1 rfl)) hl
 subst hr0;refine aJ Tryz.func72 rfl (by kernel_rfl) ?_;rw[Tryz.ntmps72];refine aD fun _ K=>?_;simp only[kd,bi,aa,ae];apply K
 refine aE (aD fun _ K=>?_);simp(disch:=omega) only[kd,aa];apply K;refine aS rfl ?_;refine aD fun _ K=>?_;simp only[kd];apply K
 (refine aI ⟨.inr rfl,aH rfl ?_ rfl⟩;simp(disch:=omega) only[kd,Tryz.results72])
end Go.Proofs.YtfgeomlagfomgaaGreatDoor
