/-
  Part 23 of a proof (walks and plain facts).
-/
import Derived.Test.YtfgeomlagfomgaaGreatDoorP21
set_option linter.all false
set_option maxRecDepth 100000
set_option maxHeartbeats 64000000
open Nat renaming reduceAdd → aa
open Nat renaming reduceEqDiff → ab
open List renaming replicate → ae
open Nat renaming reduceBEq → af
open Nat renaming reduceLeDiff → ah
open List renaming mem_map → ak
open List renaming getElem?_append_left → ao
open List renaming getElem?_eq_none → aq
open List renaming length_map → aw
open List renaming length_replicate → ax
open List renaming getElem?_map → ay
namespace Go.Proofs.YtfgeomlagfomgaaGreatDoor
open Go.RowKit
theorem DV (k c:Nat) (F:FF) (b:Bool):jL ⟨mxI 0 k c F,rB k b⟩:=by
 refine⟨rfl,fun o ho e he x hx=>?_⟩;rcases List.mem_cons.1 ho with rfl|ho
 ·simp only[gh,List.mem_mapIdx]at he;obtain⟨i,_,rfl⟩:=he;simp at hx;subst hx;rfl
 obtain⟨r,_,rfl⟩:=List.mem_map.1 ho;simp only[jB,lc,ak]at he;obtain⟨z,_,rfl⟩:=he;simp[fI]at hx;subst hx;rfl
theorem G4 {ops:Array Oper} {m d k c:Nat} {F:FF} {b:Bool} {s:AS} (hd:cwD ops m=some d):Kh ops m ⟨mxI 0 k c F,rB k b⟩ s=AS.put ⟨s.tmps,bj s.H d (mxI d k c F)⟩ (some d) (.tup [(false,[.sl d 0 0 k]),(false,[.p (.raw (.bool b))])]):=by
 unfold Kh;rw[hd];simp only[bU];rfl
/-! The Gram matrix of short rows. -/
theorem CG {n:Nat} {h S:FF} (hn1:1<=n) (hn:n<=4) (hr:RedR h n) (hS: ∀a,a<n->GdR n h (S a)) {a b:Nat} (ha:a<n) (hb:b<n):
  vG (mat n n h) (mat n n S) a b=gmB n h S a b:=by
 unfold vG;rw[pj S ha,pj S hb];exact Ds hn1 (by omega) hr ((hS a ha).co hn1 hn hr) ((hS b hb).co hn1 hn hr)
theorem Le {n:Nat} {h S:FF} (hn1:1<=n) (hn:n<=4) (hr:RedR h n) (hS:InB2 n h 262144 S):PM (mat n n h) (mat n n S):=by
 refine⟨pI hn1 (by omega) hr,fun i hi j hj=>?_⟩;rw[bf]at hi hj;have g:=mt hr.pd hS hi hj 262144 (by decide);refine⟨?_,?_,?_,?_⟩
 ·rw[bf,pj S hi];exact kj ((show GdR n h (S i)from hS.nr i hi).co hn1 hn hr)
 ·rw[bf,pj S hj];exact kj ((show GdR n h (S j)from hS.nr j hj).co hn1 hn hr)
 ·rw[CG hn1 hn hr hS.nr hi hj];omega
 rw[CG hn1 hn hr hS.nr hi hj];omega
theorem Hx {n:Nat} {h S:FF} (hn1:1<=n) (hn:n<=4) (hr:RedR h n) (hS:InB2 n h 262144 S):
  CallC Tryz.prog 48 [slI (mat n n h),slI (mat n n S)] ⟨mxI 0 n n (gmB n h S),rB n true⟩:=by
 have c:=LL (mat n n h) (mat n n S) (by rw[bf];omega);rw[vS (Le hn1 hn hr hS),bf]at c;have e:mxI 0 n n (vG (mat n n h) (mat n n S))=mxI 0 n n (gmB n h S):=by
  show _::_=_::_;rw[ch fun a b ha hb=>CG hn1 hn hr hS.nr ha hb]
 rwa[e]at c
/-! The sum of rows. -/
def sR (n:Nat) (c:Nat->Int) (S:FF) (r:Nat):Nat->Int:=fun j=>bP (fun a=>c a*S a j) r
def Gf (n:Nat) (c:Nat->Int) (S:FF) (r j:Nat):Nat->Int:=fun b=>if b<j then sR n c S (r+1) b else sR n c S r b
theorem Je {n:Nat} {c:Nat->Int} {S:FF} (hc: ∀j,-1<=c j/\c j<=1) (hS: ∀a,a<n-> ∀j,j<n-> -1099511627776<=S a j/\S a j<=1099511627776) (j:Nat) (hj:j<n):
  ∀r,r<=n-> -((r:Int)*1099511627776)<=sR n c S r j/\sR n c S r j<=(r:Int)*1099511627776
 |0,_=>by simp[sR,bP]
 |r+1,h=>by
  have ih:=Je hc hS j hj r (by omega);have h1:=hS r (by omega) j hj;have h2:=hc r;have e:sR n c S (r+1) j=sR n c S r j+c r*S r j:=rfl;have h3:c r= -1\/c r=0\/c r=1:=by omega
  rw[e];have h4:((r+1:Nat):Int)*1099511627776=(r:Int)*1099511627776+1099511627776:=by omega
  rw[h4];rcases h3 with h3|h3|h3<;>rw[h3]<;>omega
theorem Jg (n:Nat) (c:Nat->Int) (S:FF) (r:Nat):Gf n c S r 0=sR n c S r:=by
 funext b;unfold Gf;rw[if_neg (by omega)]
theorem Mb (n:Nat) (c:Nat->Int) (S:FF) (r:Nat):bA n (Gf n c S r n)=bA n (sR n c S (r+1)):=eK fun b hb=>by unfold Gf;rw[if_pos hb]
theorem Ot (n:Nat) (c:Nat->Int) (S:FF) (r j:Nat):Gf n c S r j j=sR n c S r j:=by unfold Gf;rw[if_neg (by omega)]
theorem nt (n j:Nat) (g:Nat->Int) (v:Int):(lc fI (bA n g)).set j [.p (.raw (.int .i64 v))]=lc fI (bA n (fun b=>if b=j then v else g b)):=by
 rw[<- pN,<- xB];rfl
theorem Jf (n:Nat) (c:Nat->Int) (S:FF) (r j:Nat):(fun b=>if b=j then sR n c S r j+c r*S r j else Gf n c S r j b)=Gf n c S r (j+1):=by
 funext b;unfold Gf;by_cases h:b=j
 ·subst h;rw[if_pos rfl,if_pos (by omega)];rfl
 by_cases h2:b<j
 ·rw[if_neg h,if_pos h2,if_pos (by omega)]
 rw[if_neg h,if_neg h2,if_neg (by omega)]
theorem Qr (n:Nat) (c:Nat->Int) (S:FF):jB (bA n (sR n c S 0))=⟨2,1,ae n [.p (.raw (.int .i64 0))]⟩:=by
 have e:bA n (sR n c S 0)=ae n 0:=by
  apply List.ext_getElem?;intro j;by_cases hj:j<n
  ·rw[aT _ hj,List.getElem?_replicate,if_pos hj];rfl
  rw[aq (by rw[bs];omega),aq (by simp;omega)]
 rw[jB,e,lc,List.map_replicate];rfl
theorem I1 (n:Nat) (h S:FF) (i:Nat):ju n h S i i=sR n (j1 n (gmB n h S) i (3^i)) S n:=by
 unfold ju;rw[if_pos rfl];rfl
def PT (d n i:Nat) (S:FF) (X:Nat->Int):List OObj:=⟨27,1,(gh d (ae n n)).set i [.sl d (n+1) 0 n]⟩::((mat n n S).map jB++[jB (bA n X)])
theorem Ob {d n i:Nat} (S S':FF) (hi:i<n) (hS': ∀k,k≠i->S' k=S k) (r:Nat):
  (mxI d n n S'++[jB (bA n (S i))])[r]?=((PT d n i S (S' i))[sw (i+1) (n+1) r]?).map (uV d (i+1) (n+1)):=by
 have hO: ∀l:List Int,uV d (i+1) (n+1) (jB l)=jB l:=fun l=>by
  simp only[uV,jB,lc,List.map_map]
  congr 1
 have hlen:((mat n n S).map jB).length=n:=by rw[aw,bf]
 cases r with
 |zero=>
  rw[show sw (i+1) (n+1) 0=0 by simp[sw]];unfold PT;simp only[List.cons_append,List.getElem?_cons_zero,Option.map_some,uV]
  congr 2
  apply List.ext_getElem?;intro k;rw[ay,List.getElem?_set,cf,ax];by_cases hk:k<n
  ·rw[bK d n hk];by_cases h1:i=k
   ·subst h1;have hin: ¬n=i:=by omega
    simp[hi,hin,jw,nZ,sw]
   have h1': ¬k=i:=fun e=>h1 e.symm
   have h2: ¬k=n:=by omega
   simp[h1,h1',h2,jw,nZ,sw]
  rw[if_neg (by omega),aq (by rw[cf,ax];omega)];rfl
 |succ r=>
  have hsw:sw (i+1) (n+1) (r+1)=sw i n r+1:=by
   unfold sw;by_cases h1:r=i
   ·simp[h1]
   by_cases h2:r=n
   ·simp[h2,show ¬n=i by omega]
   simp[h1,h2]
  rw[hsw];unfold PT;rw[List.cons_append,List.getElem?_cons_succ,List.getElem?_cons_succ];by_cases h1:r=i
  ·subst h1;rw[show sw r n r=n by simp[sw],ao (by rw[aw,bf];exact hi),List.getElem?_append_right (by rw[hlen];omega),hlen,Nat.sub_self];rw[ay,bv _ _ hi];simp[hO]
  by_cases h2:r=n
  ·subst h2;rw[show sw i r r=i by simp[sw,h1],List.getElem?_append_right (by rw[aw,bf];omega),ao (by rw[hlen];exact hi),aw,bf,Nat.sub_self];rw[ay,bv _ _ hi];simp[hO]
  rw[show sw i n r=r by simp[sw,h1,h2]];by_cases hr:r<n
  ·rw[ao (by rw[aw,bf];exact hr),ao (by rw[hlen];exact hr),ay,ay,bv _ _ hr,bv _ _ hr,hS' r h1];simp[hO]
  rw[aq (by simp[bf];omega),aq (by simp[bf];omega)];rfl
theorem Fi (d n c:Nat) (f:FF): ∀q∈mxI d n c f,∀e∈q.elems,∀x∈e,xc (mxI d n c f).length x:=fun q hq e he x hx=>by
 have hl:(mxI d n c f).length=n+1:=by simp[bf]
 rw[hl];simp only[List.mem_cons,ak]at hq;rcases hq with rfl|⟨r,_,rfl⟩
 ·obtain⟨k,hk⟩:=List.mem_iff_getElem?.1 he;have hkn:k<n:=by
   have:=(List.getElem?_eq_some_iff.1 hk).1;simpa[cf] using this
  simp only at hk;rw[bK d c hkn]at hk;injection hk with hk
  subst hk;simp at hx;subst hx;show k+1<n+1;omega
 simp only[jB,lc,ak]at he;obtain⟨z,_,rfl⟩:=he;simp[fI]at hx;subst hx;trivial
structure Qa (n:Nat) (h R:FF) where
 B:Nat->Nat->Int
 rch:RchB n h B R
 inb:InB2 n h 262144 B
theorem BK (n:Nat) (h R:FF) (hn1:1<=n) (hn:n<=4) (hr:RedR h n) (hR:RchB n h idF R):
  CallG Tryz.prog 0 138 46 [slI (mat n n h)] ip ⟨mxI 0 n n R,.one (.sl 0 0 0 n)⟩:=by
 have hml:=bf n n h;refine fG Tryz.func46 rfl (by kernel_rfl) ?_;rw[Tryz.ntmps46];refine aR fun _ K=>?_;simp(disch:=omega) only[kd,jD,slI,ae];apply K
 refine dJ.weak ((oV 1 1 (cs:=iS (mat n n h)) rfl rfl).trans (aE (tm:=(jk::.one (.p (.ptr (iS (mat n n h))))::j16 (j16 (j16 (j16 (j16 (j4 (jk::jk::[])))))))) (l:=[]) trivial (by simp[wk,gC,fb]))) ?_;refine aR fun _ K=>?_;simp(disch:=omega) only[kd,jD,aa,hml];apply K
 refine bI (aR fun _ K=>?_);simp only[kd,aa];apply K;refine eg (G:=jA n) (fun g=>⟨(jk::.one (.p (.ptr (iS (mat n n h))))::jk::.one (.sl 17 0 0 n)::j4 (j4 (j4 (jk::jk::jk::rN n::rN g.i::j16 (j16 (j16 (j16 (jk::jk::jk::[])))))))),Hm [(17,kI 17 n n g.i (p8 g.i))]⟩) (fun _=>ip) (fun g=>n-g.i) ⟨0,by omega⟩ ?_ rfl ?_
 ·refine aE ⟨?_,trivial⟩ ?_
  ·show[_]=_;simp[kI,gh,mat]
  simp[wk]
 rintro⟨i,hi⟩;simp only;by_cases hm:i<n
 ·have k1:=qw (i:=i) (n:=n) 17 n hm;have k2:=jo (i:=i) (n:=n) 17 n hi;have k3:=bf i n (p8 i);have k4:=np (i:=i) (n:=n) (c:=n) 17 (p8 i) hm (fun j hj=>by unfold p8;rw[if_neg (by omega)]);have k5:=qv (i:=i+1) (k:=i) (n:=n) 17 n (by omega);have k6:=jo (i:=i+1) (n:=n) 17 n (by omega);have k7:=cd (n:=i+1) n (p8 i) (i:=i) (by omega);have k8:=aT (p8 i i) hm;refine aR fun _ K=>?_;simp(disch:=omega) only[kd,jD];apply K
  refine gA rfl ?_;refine bI (cW ?_);refine aR fun _ K=>?_;simp only[kd];apply K
  refine aR fun _ K=>?_;simp(disch:=omega) only[kd,jD,aa,hml,ab,k1,ah,ax,List.all_replicate,k3,k4,af];apply K
  refine dJ.weak (aE (tm:=(jk::.one (.p (.ptr (iS (mat n n h))))::jk::.one (.sl 17 0 0 n)::rN i::j4 (j4 (j4 (jk::jk::rN n::rN i::j16 (j16 (j16 (j16 (jk::jk::jk::[]))))))))) (l:=[(17,kI 17 n n (i+1) (p8 i))]) ⟨?_,trivial⟩ (by simp[wk])) ?_
  ·first|exact k4|rfl
  refine cL fun _ K=>?_;simp(disch:=omega) only[kd,jD,aa,k5,k7,k8,dK];apply K
  show dJ _ _ _ _ _ _ _;refine cL fun _ K=>?_;simp(disch:=omega) only[kd,jD,aO];apply K
  refine⟨⟨i+1,by omega⟩,by simp only;omega,aE ⟨?_,trivial⟩ ?_,rfl⟩
  ·show _::_=_::_;rw[ch fun x y _ _=>ud i x y]
  simp[wk]
 have hin:i=n:=by omega
 subst hin;refine aR fun _ K=>?_;simp(disch:=omega) only[kd,jD];apply K
 refine jf rfl ?_;show dJ _ _ _ _ _ _ _;have e:kI 17 i i i (p8 i)=mxI 17 i i idF:=by
  rw[oA];show _::_=_::_;rw[ch fun x y hx _=>xO x y hx]
 rw[e];obtain⟨n,hni⟩: ∃n,n=i:=⟨_,rfl⟩;subst hni;clear e hm hi;refine eg (G:=Qa n h R) (fun g=>⟨(jk::.one (.p (.ptr (iS (mat n n h))))::jk::.one (.sl 17 0 0 n)::j16 (j16 (j16 (j16 (j16 (j4 ([]))))))),Hm [(17,mxI 17 n n g.B)]⟩) (fun _=>ip) (fun g=>(AF (nrm n h) g.B n).toNat) ⟨idF,hR,InB2.one hn1 (by omega) hr⟩ ?_ rfl ?_
 ·refine aE ⟨rfl,trivial⟩ ?_;simp[wk]
 rintro⟨B,rch,inb⟩;simp only;refine cW ?_
 -- the rows in order
 have hS:=inb.ord;have cM:=x8 n h B hn1 hn hr inb.nr;rw[show kE (nrm n h) B n=mE n h B from rfl]at cM;have hso:AF (nrm n h) (mE n h B) n=AF (nrm n h) B n:=uL _ _ n (Nat.le_refl n);have hnx: ∀i,vj n (gmB n h (mE n h B))=some i->RchB n h (ju n h (mE n h B) i) R:=fun i hv=>by
  cases rch with
  |done B hv'=>rw[hv]at hv';cases hv'
  |step B R j hv' hk=>rw[hv]at hv';cases hv';exact hk
 have hdn:vj n (gmB n h (mE n h B))=none->R=mE n h B:=fun hv=>by
  cases rch with
  |done B hv'=>rfl
  |step B R j hv' hk=>rw[hv]at hv';cases hv'
 have hnn: ∀B',0<=AF (nrm n h) B' n:=fun B'=>ia n fun a _=>(hr.pd.pos (B' a)).1
 generalize mE n h B=S at*
 have c1:=Hx hn1 hn hr hS;have cV:=rk n (gmB n h S) hn1 hn fun i j hi hj=>by
  have:=mt hr.pd hS hi hj 262144 (by decide);omega
 refine bI (og (Gu (k:=0) (by simp[wk]) (sK 2 cM 17 [] [] (by kernel_rfl) (by simp[wk]) hn1 rfl (ko _ _ _) (ko _ _ _) (by decide) (by simp[wk]) (by decide) fun K hK=>?_)));simp only[kd];apply hK;clear hK K;refine⟨⟨rfl,(bU 0 17 _ _ _).symm⟩,by simp,?_⟩;intro K hK;simp only[kd,aa,NQ,cwD,kM];apply hK;clear hK K;show dJ _ _ _ _ _ _ _;refine dJ.weak (aE (tm:=(jk::.one (.p (.ptr (iS (mat n n h))))::jk::.one (.sl 17 0 0 n)::j16 (j16 (j16 (j16 (j16 (j4 ([])))))))) (l:=[(17,mxI 17 n n S)]) ⟨bU 0 17 n n _,trivial⟩ (by simp[wk])) ?_
 -- the Gram matrix
 refine bI (og (sD 2 c1 (DV _ _ _ _) [] [] (by simp[wk]) (by decide) fun K hK=>?_));simp only[kd];apply hK;clear hK K;refine⟨⟨⟨_,rfl,.inl ⟨rfl,rfl⟩,.inr ⟨17,0,0,n,rfl,cu (d:=17) (n:=n) (c:=n) (f:=S) rfl,iH (d:=17) (n:=n) (c:=n) (f:=S) rfl⟩,trivial⟩,⟨42,rfl,fun _=>rfl⟩⟩,by simp,?_⟩;intro K hK;rw[G4 (d:=42) rfl];simp only[kd,aa];apply hK;clear hK K;show dJ _ _ _ _ _ _ _;refine dJ.weak (aE (tm:=(jk::.one (.p (.ptr (iS (mat n n h))))::jk::.one (.sl 17 0 0 n)::jk::.one (.sl 42 0 0 n)::j16 (j16 (j16 (j16 (j16 (jk::jk::[]))))))) (l:=[(17,mxI 17 n n S),(42,mxI 42 n n (gmB n h S))]) ⟨rfl,rfl,trivial⟩ (by simp[wk])) ?_;refine dJ.weak ((bH 42 (cu (d:=42) (n:=n) (c:=n) (f:=gmB n h S) rfl)).trans (aE (tm:=(jk::.one (.p (.ptr (iS (mat n n h))))::jk::.one (.sl 17 0 0 n)::jk::slI (mat n n (gmB n h S))::j16 (j16 (j16 (j16 (j16 (jk::jk::[]))))))) (l:=[(17,mxI 17 n n S)]) ⟨rfl,trivial⟩ (by
  simp[wk]
  (repeat' apply And.intro)<;>first|rfl|exact(iH (H:=Hm [(17,mxI 17 n n S),(42,mxI 42 n n (gmB n h S))]) (d:=42) (n:=n) (c:=n) (f:=gmB n h S) rfl).symm))) ?_
 cases hv:vj n (gmB n h S)with
 |none=>
  have eT:qT n (gmB n h S)= .tup [(false,[.p (.raw (.int .i64 0))]),(true,a4 fun _=>0),(false,[.p (.raw (.bool false))])]:=by unfold qT;rw[hv]
  rw[eT]at cV;rw[hdn hv];refine dm [⟨1,_,_,_,cV,rfl⟩] [] [] fun _ K=>?_;simp(disch:=omega) only[kd,jD,slI,dU.a,aa,ke,qg,ab,dP,fk];apply K
  refine bI (aR fun _ K=>?_);simp only[kd];apply K;refine kQ rfl ?_;refine aR fun _ K=>?_;simp only[kd];apply K
  refine fc ⟨.inr rfl,rfl,_,ca.refl _,?_⟩;refine⟨.one (.sl 17 0 0 n),17,?_,rfl,?_,rfl⟩
  ·simp(disch:=omega) only[kd,jD,Tryz.results46]
  exact(bU 17 0 _ _ _).symm
 |some i=>
  obtain⟨_,hi1,hi2,_⟩:=jd n 0 i hv;have hi:i<n:=by omega
  have hi4:i<4:=by omega
  have eT:qT n (gmB n h S)= .tup [(false,[.p (.raw (.int .i64 (i:Int)))]),(true,a4 (j1 n (gmB n h S) i (3^i))),(false,[.p (.raw (.bool true))])]:=by unfold qT;rw[hv]
  rw[eT]at cV;have hc:=(uH n (gmB n h S) i (3^i)).2.2;have hrow:=I1 n h S i;have hsum:=zZ hi hi2;have hin2:=hS.rep hi hi2;have hnext:=hnx i hv;have hSb: ∀a,a<n-> ∀j,j<n-> -1099511627776<=S a j/\S a j<=1099511627776:=fun a ha=>(show GdR n h (S a)from hS.nr a ha).co hn1 hn hr
  have hoth: ∀k,k≠i->ju n h S i k=S k:=fun k hk=>by unfold ju;rw[if_neg hk]
  generalize j1 n (gmB n h S) i (3^i)=c at*
  refine dm [⟨1,_,_,_,cV,rfl⟩] [] [] fun _ K=>?_;simp(disch:=omega) only[kd,jD,slI,dU.a,aa,ke,qg,ab,dP,fk];apply K
  refine bI (aR fun _ K=>?_);simp only[kd];apply K;refine gz rfl (eh ?_);show dJ _ _ _ _ _ _ _;refine aR fun _ K=>?_;simp(disch:=omega) only[kd,jD,aa,hml,ab];apply K
  refine dJ.weak (aE (tm:=(jk::.one (.p (.ptr (iS (mat n n h))))::jk::.one (.sl 17 0 0 n)::jk::jk::jk::rN i::.one (.ptr 8 0 0 0)::jk::.one (.sl 56 0 0 n)::j16 (j16 (j16 (j16 (j4 (j4 (j4 (jk::[]))))))))) (l:=[(17,mxI 17 n n S),(8,AE c),(56,[jB (bA n (sR n c S 0))])]) ⟨rfl,rfl,?_,trivial⟩ (by simp[wk])) ?_
  ·rw[Qr];rfl
  refine bI (aR fun _ K=>?_);simp only[kd,aa];apply K;refine eg (G:=jA n) (fun g=>⟨(jk::.one (.p (.ptr (iS (mat n n h))))::jk::.one (.sl 17 0 0 n)::jk::jk::jk::rN i::.one (.ptr 8 0 0 0)::jk::.one (.sl 56 0 0 n)::j16 (j16 (j4 (j4 (j4 (jk::jk::.one (.sl 17 0 0 n)::rN n::rN g.i::j16 (j4 (j4 (j4 ([])))))))))),Hm [(17,mxI 17 n n S),(8,AE c),(56,[jB (bA n (sR n c S g.i))])]⟩) (fun _=>ip) (fun g=>n-g.i) ⟨0,by omega⟩ ?_ rfl ?_
  ·refine aE ⟨rfl,rfl,rfl,trivial⟩ ?_;simp[wk]
  rintro⟨r,hr'⟩;simp only;by_cases hm:r<n
  ·have g1:=bK (n:=n) (i:=r) 17 n hm;have r1:=cd n S (i:=r) hm;have hr4:r<4:=by omega
   refine aR fun _ K=>?_;simp(disch:=omega) only[kd,jD];apply K
   refine gA rfl ?_;refine bI (cW ?_);refine aR fun _ K=>?_;simp(disch:=omega) only[kd,jD,aa,ab,g1];apply K
   refine aR fun _ K=>?_;simp only[kd,aa];apply K
   refine eg (G:=jA n) (fun g=>⟨(jk::.one (.p (.ptr (iS (mat n n h))))::jk::.one (.sl 17 0 0 n)::jk::jk::jk::rN i::.one (.ptr 8 0 0 0)::jk::.one (.sl 56 0 0 n)::rN r::j16 (j16 (j4 (j4 (j4 (jk::.one (.sl 17 0 0 n)::rN n::rN r::j4 (.one (.sl 17 (r+1) 0 n)::rN n::rN g.i::j16 (j4 (jk::[]))))))))),Hm [(17,mxI 17 n n S),(8,AE c),(56,[jB (bA n (Gf n c S r g.i))])]⟩) (fun _=>ip) (fun g=>n-g.i) ⟨0,by omega⟩ ?_ rfl ?_
   ·refine aE ⟨rfl,rfl,?_,trivial⟩ ?_
    ·simp only[Jg];rfl
    simp[wk]
   rintro⟨j,hj⟩;simp only;by_cases hjn:j<n
   ·have q1:=aT (S r) hjn;have q2:=aT (Gf n c S r j) hjn;rw[Ot]at q2;have d1:=wY c hr4;have b1:=Je hc hSb j hjn r (by omega);have b2:=Je hc hSb j hjn (r+1) (by omega);have b3:=hSb r hm j hjn;have b4:c r*S r j= -(S r j)\/c r*S r j=0\/c r*S r j=S r j:=by
     have:=hc r;have h3:c r= -1\/c r=0\/c r=1:=by omega
     rcases h3 with h3|h3|h3<;>rw[h3]<;>omega
    have e0:sR n c S (r+1) j=sR n c S r j+c r*S r j:=rfl;have e1:IntKind.i64.wrap (c r*S r j)=c r*S r j:=aO (by omega) (by omega);have e2:IntKind.i64.wrap (sR n c S r j+c r*S r j)=sR n c S r j+c r*S r j:=aO (by omega) (by omega);have e3:=nt n j (Gf n c S r j) (sR n c S r j+c r*S r j);rw[Jf]at e3;refine aR fun _ K=>?_;simp(disch:=omega) only[kd,jD];apply K
    refine gA rfl ?_;refine bI (cW ?_);refine aR fun _ K=>?_;simp(disch:=omega) only[kd,jD,aa,ab,r1,q1];apply K
    refine kR be (by kernel_rfl) fun _ K=>?_;simp(disch:=omega) only[kd,jD,aa,jB,ab,q2,hr4,d1,e1,e2,e3];apply K
    show dJ _ _ _ _ _ _ _;refine cL fun _ K=>?_;simp(disch:=omega) only[kd,jD,aO];apply K
    refine⟨⟨j+1,by omega⟩,by simp only;omega,aE ⟨rfl,rfl,?_,trivial⟩ ?_,rfl⟩
    ·first|rfl|simp[jB]
    simp[wk]
   have hjn:j=n:=by omega
   subst hjn;refine aR fun _ K=>?_;simp(disch:=omega) only[kd,jD];apply K
   refine jf rfl ?_;show dJ _ _ _ _ _ _ _;refine cL fun _ K=>?_;simp(disch:=omega) only[kd,jD,aO];apply K
   refine⟨⟨r+1,by omega⟩,by simp only;omega,aE ⟨rfl,rfl,?_,trivial⟩ ?_,rfl⟩
   ·simp only[Mb];rfl
   simp[wk]
  have hrn:r=n:=by omega
  subst hrn;have g1:=bK (n:=r) (i:=i) 17 r hi;have hjx:=Ob (d:=17) S (ju r h S i) hi hoth;rw[hrow]at hjx;refine aR fun _ K=>?_;simp(disch:=omega) only[kd,jD];apply K
  refine jf rfl ?_;show dJ _ _ _ _ _ _ _;refine cL fun _ K=>?_;simp(disch:=omega) only[kd,jD,aa,jB,ab,g1,ah,bs,bf,af];apply K
  refine⟨⟨ju r h S i,hnext,hin2⟩,by have:=hnn (ju r h S i);have:=hnn B;simp only;omega,?_,rfl⟩;refine(aE (tm:=(jk::.one (.p (.ptr (iS (mat r r h))))::jk::.one (.sl 17 0 0 r)::j16 (j16 (j16 (j16 (j16 (j4 ([])))))))) (l:=[(17,PT 17 r i S (sR r c S r))]) ⟨?_,trivial⟩ (by simp[wk])).trans ?_
  ·rfl
  refine(oW 17 (i+1) (r+1) (mxI 17 r r (ju r h S i)++[jB (bA r (S i))]) hjx).trans ?_;refine(Ej 17 (F:=mxI 17 r r (ju r h S i)) rfl (Fi _ _ _ _)).trans ?_;refine aE ⟨rfl,trivial⟩ ?_;simp[wk,Ct,jw,nZ,sw,bD,bC,bf]
section
variable {n:Nat}
def Ki (n:Nat) (a:FF) (i:Nat):Nat->Nat->Option Nat
 |0,_=>none
 |m+1,c=>if nrm n a (cnd i c)<a i i then some c else Ki n a i m (c+1)
def lh (n:Nat) (a:FF) (i:Nat):Option Nat:=Ki n a i (3^i) 0
theorem tg {a:FF} {i:Nat}: ∀m c r,Ki n a i m c=some r->c<=r/\r<c+m/\nrm n a (cnd i r)<a i i
 |0,_,_,h=>by cases h
 |m+1,c,r,h=>by
  rw[Ki]at h;split at h
  ·rename_i hl;injection h with h
   subst h;exact⟨Nat.le_refl _,by omega,hl⟩
  obtain⟨h1,h2,h3⟩:=tg m (c+1) r h;exact⟨by omega,by omega,h3⟩
theorem y8 {a:FF} {i:Nat}: ∀m c,Ki n a i m c=none-> ∀r,c<=r->r<c+m-> ¬nrm n a (cnd i r)<a i i
 |0,_,_=>fun r h1 h2=>by omega
 |m+1,c,h=>by
  rw[Ki]at h;split at h
  ·cases h
  rename_i hl;intro r h1 h2;by_cases e:r=c
  ·subst e;exact hl
  exact y8 m (c+1) h r (by omega) (by omega)
theorem mq {a:FF} {i:Nat} (h:lh n a i=none): ¬VioP n a i:=fun⟨c,h1,h2⟩=>y8 _ _ h c (by omega) (by omega) h2
inductive qY where
 |swp (i:Nat)
 |rep (i c:Nat)
 |neg (i:Nat)
def scanR (n:Nat) (a:FF):Nat->Nat->Option qY
 |0,_=>none
 |m+1,i=>if 0<i/\a i i<a (i-1) (i-1)then some (.swp i)else match lh n a i with
  |some c=>some (.rep i c)
  |none=>if 0<i/\a (i-1) i<0 then some (.neg i)else scanR n a m (i+1)
def opC (n:Nat) (t:FF):qY->Nat->Nat->Int
 | .swp i=>fun r c=>if c=i then t r (i-1)else if c=i-1 then t r i else t r c
 | .rep i c=>cT t i (mV n t (cnd i c))
 | .neg i=>cT t i (fun r=> - t r i)
def opU:qY->Nat->Nat->Int
 | .swp i=>fun r c=>if c=i then idF r (i-1)else if c=i-1 then idF r i else idF r c
 | .rep i c=>cT idF i (cnd i c)
 | .neg i=>cT idF i (fun r=> - idF r i)
def qY.i:qY->Nat
 | .swp i=>i
 | .rep i _=>i
 | .neg i=>i
theorem qM (F:Nat->Int) {k:Nat} (hk:k<n):bP (fun p=>F p*idF p k) n=F k:=by
 rw[gJ hk (fun p _ hne=>by unfold idF;rw[if_neg hne,Int.mul_zero])];unfold idF;rw[if_pos rfl,Int.mul_one]
theorem BN {t:FF} {op:qY} (hi:op.i<n) {r c:Nat} (hc:c<n):fJ n t (opU op) r c=opC n t op r c:=by
 rw[gG];cases op with
 |swp i=>
  have hi:i<n:=hi;simp only[opU,opC];by_cases e1:c=i
  ·simp only[if_pos e1];exact qM (t r) (by omega)
  by_cases e2:c=i-1
  ·simp only[if_neg e1,if_pos e2];exact qM (t r) (by omega)
  simp only[if_neg e1,if_neg e2];exact qM (t r) hc
 |rep i k=>
  simp only[opU,opC,cT];by_cases e1:c=i
  ·simp only[if_pos e1];unfold mV;exact aS n fun p _=>Int.mul_comm _ _
  simp only[if_neg e1];exact qM (t r) hc
 |neg i=>
  have hi:i<n:=hi;simp only[opU,opC,cT];by_cases e1:c=i
  ·simp only[if_pos e1];have:=qM (n:=n) (fun p=> - t r p) hi;rw[<- this];exact aS n fun p _=>by grind
  simp only[if_neg e1];exact qM (t r) hc
theorem KS {h t u:FF} {a b:Nat}:cngF n (cngF n h t) u a b=cngF n h (fJ n t u) a b:=by
 rw[dx,dx,<- p9];refine ee (fun _ _ _ _=>rfl) (fun i _=>?_) (fun i _=>?_)<;>
 (unfold mV;rw[gG];exact aS n fun p _=>Int.mul_comm _ _)
theorem NT {h t:FF} {op:qY} (hi:op.i<n) {a b:Nat} (ha:a<n) (hb:b<n):cngF n (cngF n h t) (opU op) a b=cngF n h (opC n t op) a b:=by
 rw[KS,dx,dx];exact ee (fun _ _ _ _=>rfl) (fun i _=>BN hi ha) (fun i _=>BN hi hb)
/-! What the operations do to the Gram matrix. -/
theorem nT {F G:Nat->Int} {i:Nat}: ∀{m},i<m->(∀a,a<m->a≠i->F a=G a)->bP G m=bP F m+(G i-F i)
 |m+1,hi,h=>by
  rw[bP,bP];by_cases e:i=m
  ·subst e;rw[aS i (F:=G) (G:=F) fun p hp=>(h p (by omega) (by omega)).symm];omega
  rw[nT (m:=m) (by omega) (fun a ha hne=>h a (by omega) hne),h m (by omega) (Ne.symm e)];omega
theorem wN (h:FF) (x y:Nat->Int):BF n h x (fun r=> - y r)= - BF n h x y:=by
 have h1:=fK (n:=n) h x y y (-2);have e:(fun i=>y i+ -2*y i)=fun r=> - y r:=by funext i;omega
 rw[e]at h1;rw[h1];omega
theorem rI (h:FF) (x y:Nat->Int):BF n h (fun r=> - x r) y= - BF n h x y:=by
 have h1:=ic (n:=n) h x x y (-2);have e:(fun i=>x i+ -2*x i)=fun r=> - x r:=by funext i;omega
 rw[e]at h1;rw[h1];omega
def De (n:Nat) (A:FF):Int:=bP (fun i=>((n-i:Nat):Int)*A i i) n
def Py (n:Nat) (A:FF):Int:=bP (fun i=>if 0<i/\A (i-1) i<0 then((2^(n-i):Nat):Int)else 0) n
theorem BQ (A:FF):0<=Py n A/\Py n A<=(n:Int)*((2^n:Nat):Int):=by
 refine⟨ia n fun i _=>?_,?_⟩
 ·show(0:Int)<=if 0<i/\A (i-1) i<0 then((2^(n-i):Nat):Int)else 0
  generalize 2^(n-i)=q;split<;>omega
 refine(uK (B:=((2^n:Nat):Int)) n fun i _=>?_).2;have h:2^(n-i)<=2^n:=Nat.pow_le_pow_right (by omega) (by omega);show -((2^n:Nat):Int)<=(if 0<i/\A (i-1) i<0 then((2^(n-i):Nat):Int)else 0)/\(if 0<i/\A (i-1) i<0 then((2^(n-i):Nat):Int)else 0)<=((2^n:Nat):Int);generalize 2^(n-i)=q at*
 generalize 2^n=p at*
 split<;>omega
def Fe (n:Nat) (A:FF):Int:=De n A*((n:Int)*((2^n:Nat):Int)+1)+Py n A
theorem M7 {A A':FF} (h:De n A'<De n A):Fe n A'<Fe n A:=by
 have h1:=BQ (n:=n) A;have h2:=BQ (n:=n) A';unfold Fe;generalize(n:Int)*((2^n:Nat):Int)=q at*
 have h3:(De n A'+1)*(q+1)<=De n A*(q+1):=Int.mul_le_mul_of_nonneg_right (by omega) (by omega);rw[Int.add_mul,Int.one_mul]at h3;omega
theorem K1 {h t:FF} {i:Nat} (h0:0<i) (hi:i<n) (hl:cngF n h t i i<cngF n h t (i-1) (i-1)):De n (cngF n h (opC n t (.swp i)))<De n (cngF n h t):=by
 obtain⟨j,rfl⟩: ∃j,i=j+1:=⟨i-1,by omega⟩;rw[Nat.add_sub_cancel]at hl;have e: ∀a,cngF n h (opC n t (.swp (j+1))) a a=if a=j then cngF n h t (j+1) (j+1)else if a=j+1 then cngF n h t j j else cngF n h t a a:=fun a=>by
  have e2: ∀c,(fun r=>opC n t (.swp (j+1)) r c)=if c=j then fun r=>t r (j+1)else if c=j+1 then fun r=>t r j else fun r=>t r c:=fun c=>by
   by_cases e1:c=j+1
   ·subst e1;simp[opC]
   by_cases e3:c=j
   ·subst e3;simp[opC]
   simp[opC,e1,e3]
  rw[dx,e2];split
  ·rw[dx]
  split
  ·rw[dx]
  rw[dx]
 unfold De;rw[x7 (fun a=>((n-a:Nat):Int)*cngF n h t a a) hi];obtain⟨q,hq⟩: ∃q,q=cngF n h t (j+1) (j+1):=⟨_,rfl⟩;obtain⟨p,hp⟩: ∃p,p=cngF n h t j j:=⟨_,rfl⟩;rw[<- hq,<- hp]at hl
 -- compare at the places j and j + 1
 have key: ∀m,j+1<m->m<=n->bP (fun a=>((n-a:Nat):Int)*cngF n h (opC n t (.swp (j+1))) a a) m+(p-q)=bP (fun a=>if a=j then((n-(j+1):Nat):Int)*q else if a=j+1 then((n-j:Nat):Int)*p else((n-a:Nat):Int)*cngF n h t a a) m:=fun m hm hmn=>by
  obtain⟨d,rfl⟩: ∃d,m=j+2+d:=⟨m-(j+2),by omega⟩
  induction d with
  |zero=>
   rw[show j+2+0=j+1+1 by omega,bP,bP,bP,bP,aS j (F:=fun a=>((n-a:Nat):Int)*cngF n h (opC n t (.swp (j+1))) a a) (G:=fun a=>if a=j then((n-(j+1):Nat):Int)*q else if a=j+1 then((n-j:Nat):Int)*p else((n-a:Nat):Int)*cngF n h t a a) (fun a ha=>by rw[e,if_neg (by omega),if_neg (by omega),if_neg (by omega),if_neg (by omega)])];rw[e,e,if_pos rfl,if_pos rfl,if_neg (by omega),if_pos rfl,if_neg (by omega),if_pos rfl,<- hq,<- hp];have e3:((n-j:Nat):Int)=((n-(j+1):Nat):Int)+1:=by omega
   rw[e3,Int.add_mul,Int.add_mul];omega
  |succ d ih=>
   have:=ih (by omega) (by omega);rw[<- Nat.add_assoc,bP,bP,e,if_neg (by omega),if_neg (by omega),if_neg (by omega),if_neg (by omega)];omega
 have:=key n hi (Nat.le_refl n);rw[<- hq,<- hp];omega
end
abbrev Oq (G T:List (List Int)) (e:Int):TV:= .tup [(false,[.p (.sl (ls (fR fI) G))]),(false,[.p (.sl (ls (fR fI) T))]),(false,[.p (.raw (.int .i64 e))])]
def ru (g R:FF) (m:Nat):Nat->Nat->Int:=fun a b=>if a<m then lN g a*R a b else R a b
def Gg (g R:FF) (m j:Nat):Nat->Nat->Int:=fun a b=>if a=m/\b<j then 0-R m b else ru g R m a b
theorem Ck {g R:FF} {m a:Nat} (h:a<m):ru g R m a=rF g R a:=by
 funext b;unfold ru;rw[if_pos h];rfl
theorem Jq {g R:FF} {m a:Nat} (h: ¬a<m):ru g R m a=R a:=by
 funext b;unfold ru;rw[if_neg h]
theorem Jp (g R:FF) (m:Nat):Gg g R m 0=ru g R m:=by
 funext a b;unfold Gg;rw[if_neg (by omega)]
theorem Ow (g R:FF) (m j:Nat):Gg g R m j m j=R m j:=by
 unfold Gg ru;rw[if_neg (by omega),if_neg (by omega)]
theorem Jo (g R:FF) (m j a b:Nat):upd (Gg g R m j) m j (0-R m j) a b=Gg g R m (j+1) a b:=by
 unfold upd Gg;by_cases h1:a=m
 ·subst h1;by_cases h2:b=j
  ·subst h2;simp
  by_cases h3:b<j
  ·simp[h2,h3,show b<j+1 by omega]
  simp[h2,h3,show ¬b<j+1 by omega]
 simp[h1]
theorem Mg {g R:FF} {m n:Nat} (hs:lN g m= -1) (a b:Nat) (hb:b<n):Gg g R m n a b=ru g R (m+1) a b:=by
 unfold Gg ru;by_cases h1:a=m
 ·subst h1;rw[if_pos ⟨rfl,hb⟩,if_pos (by omega),hs];omega
 have:a<m+1↔a<m:=by omega
 simp[h1,this]
theorem Jr {g R:FF} {m:Nat} (hs:lN g m=1) (a b:Nat):ru g R m a b=ru g R (m+1) a b:=by
 unfold ru;by_cases h1:a=m
 ·subst h1;rw[if_neg (by omega),if_pos (by omega),hs];omega
 have:a<m+1↔a<m:=by omega
 simp[this]
theorem Mi (g R:FF) (a b:Nat):R a b=ru g R 1 a b:=by
 unfold ru;split
 ·rename_i h;have:a=0:=by omega
  subst this;rw[lN];omega
 rfl
theorem Mh {g R:FF} {n a:Nat} (ha:a<n) (b:Nat):ru g R n a b=rF g R a b:=by rw[Ck ha]
theorem Nq {n:Nat} {h:FF} {s:Int} (hs:s=1\/s= -1) (x y:Nat->Int):BF n h (fun j=>s*x j) y=s*BF n h x y:=by
 rcases hs with rfl|rfl
 ·rw[ee (fun _ _ _ _=>rfl) (fun i _=>Int.one_mul (x i)) (fun _ _=>rfl)];omega
 rw[ee (x':=fun r=> - x r) (fun _ _ _ _=>rfl) (fun i _=>by omega) (fun _ _=>rfl),rI];omega
theorem Oy {n:Nat} {h g R:FF} (k:Nat):BF n h (ru g R (k+1) k) (ru g R (k+1) (k+1))=lN g k*gmB n h R k (k+1):=by
 rw[Ck (by omega),Jq (by omega)];exact Nq (lO g k) _ _
structure Qd (n:Nat) where
 k:Nat
 hk:k+1<=n
theorem tG (n:Nat) (h R:FF) (hn1:1<=n) (hn:n<=4) (hr:RedR h n) (hR:RchB n h idF R):
  CallG Tryz.prog 0 138 18 [slI (mat n n h)] ip ⟨[],Oq (mat n n (gmB n h (rF (gmB n h R) R))) (mat n n (trF (rF (gmB n h R) R))) 0⟩:=by
 have hml:=bf n n h;have c1:=pw (mat n n h);rw[pI hn1 (by omega) hr]at c1;have cS:=BK n h R hn1 hn hr hR;have inb:=(pG hR (InB2.one hn1 (by omega) hr)).1;have inq:=inb.sg (gmB n h R);have cG:=Hx hn1 hn hr inq;obtain⟨g,hg⟩: ∃g,g=gmB n h R:=⟨_,rfl⟩;rw[<- hg]at inq cG⊢;have gd: ∀m a,a<n->GdR n h (ru g R m a):=fun m a ha=>by
  by_cases hm:a<m
  ·rw[Ck hm];exact inq.nr a ha
  rw[Jq hm];exact inb.nr a ha
 refine fG Tryz.func18 rfl (by kernel_rfl) ?_;rw[Tryz.ntmps18];refine aR fun _ K=>?_;simp only[kd,aa,slI,ae];apply K
 refine bI (cW ?_);refine fD [⟨1,_,_,_,c1⟩] [] fun _ K=>?_;simp only[kd,slI,aa];apply K
 refine gz rfl ?_;refine aR fun _ K=>?_;simp(disch:=omega) only[kd,jD,aa,hml];apply K
 refine gz rfl (eh ?_);show dJ _ _ _ _ _ _ _;refine dm [⟨1,_,_,_,cS,rfl⟩] [] [] fun _ K=>?_;simp(disch:=omega) only[kd,jD,slI,dU.a,aa];apply K
 refine dJ.weak (aE (tm:=(slI (mat n n h)::j4 (.one (.sl 25 0 0 n)::j16 (j16 (j16 (j16 (j16 (j16 (j4 (jk::jk::[])))))))))) (l:=[(25,mxI 25 n n R)]) ⟨bU 0 25 _ _ _,trivial⟩ (by simp[wk])) ?_;refine bI (aR fun _ K=>?_);simp only[kd,slI];apply K;refine eg (G:=Qd n) (fun q=>⟨(slI (mat n n h)::j4 (.one (.sl 25 0 0 n)::.raw (.int .i64 ((q.k+1:Nat):Int))::j16 (j16 (j16 (j16 (j16 (j16 (j4 (jk::[]))))))))),Hm [(25,mxI 25 n n (ru g R (q.k+1)))]⟩) (fun _=>ip) (fun q=>n-q.k) ⟨0,by omega⟩ ?_ rfl ?_
 ·refine aE ⟨?_,trivial⟩ ?_
  ·show _::_=_::_;rw[ch fun a b _ _=>Mi g R a b]
  simp[wk]
 rintro⟨k,hk⟩;simp only;by_cases hm:k+1<n
 ·have e0:IntKind.i64.wrap (((k+1:Nat):Int)-1)=(k:Int):=by rw[show((k+1:Nat):Int)-1=(k:Int) by omega];exact aO (by omega) (by omega)
  have e1:IntKind.i64.wrap (((k+1:Nat):Int)+1)=((k+1+1:Nat):Int):=by rw[show((k+1:Nat):Int)+1=((k+1+1:Nat):Int) by omega];exact aO (by omega) (by omega)
  have hv:BF n h (ru g R (k+1) k) (ru g R (k+1) (k+1))=lN g k*g k (k+1):=by rw[Oy,hg]
  have hgb:=mt hr.pd inb (show k<n by omega) hm 262144 (by decide);rw[<- hg]at hgb;have hsb:=lO g k;have hsv: -262144<=lN g k*g k (k+1)/\lN g k*g k (k+1)<=262144:=by
   rcases hsb with e|e<;>rw[e]<;>omega
  have cI:=IM (mat n n h) (bA n (ru g R (k+1) k)) (bA n (ru g R (k+1) (k+1)));rw[tw hn1 (by omega) hr ((gd _ _ (by omega)).co hn1 hn hr) ((gd _ _ hm).co hn1 hn hr) (by rw[hv];omega),hv]at cI;have g1:=bK (n:=n) (i:=k) 25 n (by omega);have g2:=bK (n:=n) (i:=k+1) 25 n hm;have r1:=cd (n:=n) n (ru g R (k+1)) (i:=k) (by omega);have r2:=cd (n:=n) n (ru g R (k+1)) (i:=k+1) hm;have sgk:lN g (k+1)=if lN g k*g k (k+1)<0 then -1 else 1:=rfl
  refine bI (aR fun _ K=>?_);simp(disch:=omega) only[kd,jD,aa,slI];apply K;refine kQ rfl (eh ?_);refine bI (cW ?_);refine mY be [⟨10,_,_,_,cI⟩] [] (by kernel_rfl) fun _ K=>?_;simp(disch:=omega) only[kd,jD,slI,iP,FV,aa,e0,g1,g2,r1,gW,r2];apply K
  generalize hvv:lN g k*g k (k+1)=v at*
  by_cases hneg:v<0
  ·rw[if_pos hneg]at sgk;refine aR fun _ K=>?_;simp(disch:=omega) only[kd,jD];apply K
   refine kQ rfl ?_;refine aR fun _ K=>?_;simp(disch:=omega) only[kd,jD,aa,g2];apply K
   refine eg (G:=jA n) (fun q=>⟨(slI (mat n n h)::j4 (.one (.sl 25 0 0 n)::.raw (.int .i64 ((k+1:Nat):Int))::j16 (j16 (j4 (j4 (j4 (jk::rN n::rN q.i::j16 (j16 (j16 (j4 (jk::jk::[]))))))))))),Hm [(25,mxI 25 n n (Gg g R (k+1) q.i))]⟩) (fun _=>ip) (fun q=>n-q.i) ⟨0,by omega⟩ ?_ rfl ?_
   ·refine aE ⟨?_,trivial⟩ ?_
    ·show _::_=_::_;rw[Jp]
    simp[wk]
   rintro⟨j,hj⟩;simp only;by_cases hjn:j<n
   ·have r3:=cd (n:=n) n (Gg g R (k+1) j) (i:=k+1) hm;have r4:(bA n (Gg g R (k+1) j (k+1)))[j]?=some (R (k+1) j):=by rw[aT _ hjn,Ow]
    have b1:=(show GdR n h (R (k+1))from inb.nr (k+1) hm).co hn1 hn hr j hjn;have e2:IntKind.i64.wrap (0-R (k+1) j)=0-R (k+1) j:=aO (by omega) (by omega);refine aR fun _ K=>?_;simp(disch:=omega) only[kd,jD,slI];apply K
    refine gA rfl ?_;refine bI (cW ?_);refine aR fun _ K=>?_;simp only[kd];apply K
    refine kR be (by kernel_rfl) fun _ K=>?_;simp(disch:=omega) only[kd,jD,aa,g2,r3,r4,e2,dK];apply K
    show dJ _ _ _ _ _ _ _;refine cL fun _ K=>?_;simp(disch:=omega) only[kd,jD,aO];apply K
    refine⟨⟨j+1,by omega⟩,by simp only;omega,aE ⟨?_,trivial⟩ ?_,rfl⟩
    ·show _::_=_::_;rw[ch fun a b _ _=>Jo g R (k+1) j a b]
    simp[wk]
   have hjn:j=n:=by omega
   refine aR fun _ K=>?_;simp(disch:=omega) only[kd,jD,slI];apply K
   refine jf rfl ?_;show dJ _ _ _ _ _ _ _;refine cL fun _ K=>?_;simp only[kd,aa,e1];apply K
   refine⟨⟨k+1,by omega⟩,by simp only;omega,aE ⟨?_,trivial⟩ ?_,rfl⟩
   ·show _::_=_::_;rw[ch fun a b _ hb=>Mg (n:=j) sgk a b (by omega)]
   simp[wk]
  rw[if_neg hneg]at sgk;refine aR fun _ K=>?_;simp(disch:=omega) only[kd,jD];apply K
  refine gz rfl (eh ?_);show dJ _ _ _ _ _ _ _;refine cL fun _ K=>?_;simp only[kd,aa,e1];apply K
  refine⟨⟨k+1,by omega⟩,by simp only;omega,aE ⟨?_,trivial⟩ ?_,rfl⟩
  ·show _::_=_::_;rw[ch fun a b _ _=>Jr sgk a b]
  simp[wk]
 have hkn:k+1=n:=by omega
 refine bI (aR fun _ K=>?_);simp(disch:=omega) only[kd,jD,aa,slI];apply K;refine gz rfl (yC ?_);show dJ _ _ _ _ _ _ _;have e:mxI 25 n n (ru g R (k+1))=mxI 25 n n (rF g R):=by
  show _::_=_::_;rw[hkn,ch fun a b ha _=>Mh ha b]
 rw[e];generalize rF g R=Q at*
 clear gd inq inb e hm hk hkn
 -- the Gram matrix
 refine bI (og (sD 2 cG (DV _ _ _ _) [] [] (by simp[wk]) (by decide) fun K hK=>?_));simp only[kd];apply hK;clear hK K;refine⟨⟨⟨_,rfl,.inl ⟨rfl,rfl⟩,.inr ⟨25,0,0,n,rfl,cu (d:=25) (n:=n) (c:=n) (f:=Q) rfl,iH (d:=25) (n:=n) (c:=n) (f:=Q) rfl⟩,trivial⟩,⟨74,rfl,fun _=>rfl⟩⟩,by simp,?_⟩;intro K hK;rw[G4 (d:=74) rfl];simp only[kd,aa];apply hK;clear hK K;show dJ _ _ _ _ _ _ _;refine dJ.weak (aE (tm:=(slI (mat n n h)::j4 (.one (.sl 25 0 0 n)::j4 (.one (.sl 74 0 0 n)::j16 (j16 (j16 (j16 (j16 (j16 (jk::[])))))))))) (l:=[(25,mxI 25 n n Q),(74,mxI 74 n n (gmB n h Q))]) ⟨rfl,rfl,trivial⟩ (by simp[wk])) ?_;refine dJ.weak ((bH 74 (cu (d:=74) (n:=n) (c:=n) (f:=gmB n h Q) rfl)).trans (aE (tm:=(slI (mat n n h)::j4 (.one (.sl 25 0 0 n)::j4 (slI (mat n n (gmB n h Q))::j16 (j16 (j16 (j16 (j16 (j16 (jk::[])))))))))) (l:=[(25,mxI 25 n n Q)]) ⟨rfl,trivial⟩ (by
  simp[wk]
  (repeat' apply And.intro)<;>first|rfl|exact(iH (H:=Hm [(25,mxI 25 n n Q),(74,mxI 74 n n (gmB n h Q))]) (d:=74) (n:=n) (c:=n) (f:=gmB n h Q) rfl).symm))) ?_
 generalize mat n n (gmB n h Q)=GM at*
 refine aR fun _ K=>?_;simp(disch:=omega) only[kd,jD,aa,slI,hml,ab];apply K
 refine bI (aR fun _ K=>?_);simp only[kd,aa];apply K;refine eg (G:=jA n) (fun q=>⟨(j4 (jk::.one (.sl 25 0 0 n)::j4 (slI GM::jk::.one (.sl 79 0 0 n)::j16 (j16 (j16 (j16 (j4 (.raw (.int .i64 (n:Int))::rN q.i::j16 (j4 (j4 (jk::[]))))))))))),Hm [(25,mxI 25 n n Q),(79,kI 79 n n q.i (trF Q))]⟩) (fun _=>ip) (fun q=>n-q.i) ⟨0,by omega⟩ ?_ rfl ?_
 ·refine aE ⟨rfl,?_,trivial⟩ ?_
  ·show[_]=_;simp[kI,gh,mat]
  simp[wk]
 rintro⟨i,hi⟩;simp only;by_cases hm:i<n
 ·have hmi:=bf i n (trF Q);have hsl:(gh 79 (ae i n)).length=i:=by rw[cf,ax]
  have hrl:((mat i n (trF Q)).map jB).length=i:=by rw[aw,hmi]
  refine aR fun _ K=>?_;simp(disch:=omega) only[kd,jD,slI];apply K
  refine gA rfl ?_;refine bI (cW ?_);refine aR fun _ K=>?_;simp only[kd];apply K
  refine aR fun _ K=>?_;simp only[kd,aa];apply K
  refine eg (G:=jA n) (fun q=>⟨(j4 (jk::.one (.sl 25 0 0 n)::j4 (slI GM::jk::.one (.sl 79 0 0 n)::rN i::j16 (j16 (j16 (j16 (jk::jk::jk::rN n::rN i::jk::jk::.one (.sl 25 0 0 n)::rN n::rN q.i::j16 (j4 ([]))))))))),Hm [(25,mxI 25 n n Q),(79,PS 79 n n (trF Q) i q.i)]⟩) (fun _=>ip) (fun q=>n-q.i) ⟨0,by omega⟩ ?_ rfl ?_
  ·refine aE ⟨rfl,rfl,trivial⟩ ?_;simp[wk]
  rintro⟨j,hj⟩;simp only;by_cases hm2:j<n
  ·have g1:=bK (n:=n) (i:=j) 25 n hm2;have hr1:=cd n Q (i:=j) hm2;have hjr:=aT (Q j) hm;cases j with
   |zero=>
    rw[PS,Ld (trF Q) hm];refine aR fun _ K=>?_;simp(disch:=omega) only[kd,jD,slI];apply K
    refine gA rfl ?_;refine bI (cW ?_);refine aR fun _ K=>?_;simp(disch:=omega) only[kd,jD,aa,ab,g1];apply K
    refine kR be (by kernel_rfl) fun _ K=>?_;simp(disch:=omega) only[kd,jD,aa,ab,nA hsl,hr1,hjr,Nat.reduceMul,ah,nB hsl,hmi,af];apply K
    show dJ _ _ _ _ _ _ _;refine cL fun _ K=>?_;simp(disch:=omega) only[kd,jD,aO];apply K
    refine⟨⟨1,by omega⟩,by simp only;omega,aE ⟨rfl,?_,trivial⟩ ?_,rfl⟩
    ·rfl
    simp[wk]
   |succ j=>
    have h01:(0==i+1)=false:=by simp
    rw[PS,O1];refine aR fun _ K=>?_;simp(disch:=omega) only[kd,jD,slI];apply K
    refine gA rfl ?_;refine bI (cW ?_);refine aR fun _ K=>?_;simp(disch:=omega) only[kd,jD,aa,ab,g1];apply K
    refine kR be (by kernel_rfl) fun _ K=>?_;simp(disch:=omega) only[kd,jD,aa,jB,ab,nA hsl,hr1,hjr,Nat.reduceMul,ah,nA hrl,bs,List.map_append,Al,List.map_replicate,Jc,zo,nB hrl,af,h01,nB hsl,reduceCtorEq,List.length_append,hrl];apply K
    show dJ _ _ _ _ _ _ _;refine cL fun _ K=>?_;simp(disch:=omega) only[kd,jD,aO];apply K
    refine⟨⟨j+1+1,by omega⟩,by simp only;omega,aE ⟨rfl,?_,trivial⟩ ?_,rfl⟩
    ·show _=O1 79 n n (trF Q) i (j+1);rw[O1,jB,nP (j+1)];rfl
    simp[wk]
  have hjc:j=n:=by omega
  subst hjc;refine aR fun _ K=>?_;simp(disch:=omega) only[kd,jD,slI];apply K
  refine jf rfl ?_;show dJ _ _ _ _ _ _ _;rw[N3 _ (by omega) hm];refine cL fun _ K=>?_;simp(disch:=omega) only[kd,jD,aO];apply K
  refine⟨⟨i+1,by omega⟩,by simp only;omega,aE ⟨rfl,rfl,trivial⟩ ?_,rfl⟩;simp[wk]
 have hin:i=n:=by omega
 subst hin;refine aR fun _ K=>?_;simp(disch:=omega) only[kd,jD,slI];apply K
 refine jf rfl ?_;show dJ _ _ _ _ _ _ _;rw[oA];refine dJ.weak ((bH 79 (cu (d:=79) (n:=i) (c:=i) (f:=trF Q) rfl)).trans (aE (tm:=(j4 (j4 (jk::jk::slI GM::jk::slI (mat i i (trF Q))::j16 (j16 (j16 (j16 (j16 (j4 (j4 (j4 (jk::jk::jk::[])))))))))))) (l:=[]) trivial (by
  simp[wk]
  (repeat' apply And.intro)<;>first|rfl|exact(iH (H:=Hm [(25,mxI 25 i i Q),(79,mxI 79 i i (trF Q))]) (d:=79) (n:=i) (c:=i) (f:=trF Q) rfl).symm))) ?_
 refine aR fun _ K=>?_;simp only[kd,aa,slI];apply K
 (refine fc ⟨.inr rfl,rfl,aJ rfl ?_ rfl⟩;simp(disch:=omega) only[kd,jD,Tryz.results18,Oq])
def O8 (M:List (List Int)):Prop:=(1<=M.length/\M.length<=4)/\ ∀r∈M,RwOk M.length r
theorem tn {M:List (List Int)}:vo M↔O8 M/\PD (ent M) M.length:=⟨fun h=>⟨⟨h.1,h.2.1⟩,h.2.2⟩,fun h=>⟨h.1.1,h.1.2,h.2⟩⟩
theorem O8.entB {M:List (List Int)} (h:O8 M) {i j:Nat} (hi:i<M.length) (hj:j<M.length): -1125899906842624<=ent M i j/\ent M i j<=1125899906842624:=by
 have hr:=h.2 M[i] (List.getElem_mem hi);have e:ent M i j=M[i][j]'(by rw[hr.1];exact hj):=by
  unfold ent;simp[List.getD,hi,hr.1,hj]
 rw[e];exact hr.2 _ (List.getElem_mem _)
theorem BY {f:FF} {n:Nat}:PD f n↔SymF f n/\wT f n:=
 ⟨fun h=>⟨h.1,fun k hk=>by rw[nj h.2 k hk];exact h.2 k hk⟩,fun h=>⟨h.1,fun k hk=>(uc h.2 k hk).1⟩⟩
theorem uk (M:List (List Int)) (r:Bool) (hr:r=true↔O8 M):CallC Tryz.prog 37 [slI M] ⟨[],.raw (.bool r)⟩:=by
 by_cases hlen:1<=M.length/\M.length<=4
 ·refine aI Tryz.func37 rfl (by kernel_rfl) ?_;rw[Tryz.ntmps37];refine aD fun _ K=>?_;simp only[kd,slI,ae];apply K
  refine aF (aD fun _ K=>?_);simp(disch:=omega) only[kd,jD,aa];apply K;refine aQ rfl (aM ?_);show bo _ _ _ _;refine aF (aD fun _ K=>?_);simp only[kd,aa];apply K;refine aX (G:=Qt M) (fun g=>⟨(slI M::jk::.raw (.bool false)::j4 (j4 (j4 (slI M::rN M.length::rN g.i::j16 (j4 (jk::jk::[])))))),Hm []⟩) (fun g=>M.length-g.i) ⟨0,by omega,fun a ha=>by omega⟩ ?_ ?_
  ·refine aE trivial ?_;simp[wk]
  rintro⟨i,hi,ok⟩;simp only;by_cases hm:i<M.length
  ·obtain⟨q,hq⟩: ∃q,M[i]?=some q:=⟨M[i],List.getElem?_eq_getElem hm⟩;have hqm:=wA hq;refine aD fun _ K=>?_;simp(disch:=omega) only[kd,jD,slI];apply K
   refine bx rfl ?_;refine aF (aK ?_);refine aD fun _ K=>?_;simp(disch:=omega) only[kd,jD,aa,hq,fR];apply K
   by_cases hql:q.length=M.length
   ·refine aF (aD fun _ K=>?_);simp(disch:=omega) only[kd,jD,aa,hql];apply K;refine aQ rfl (aM ?_);show bo _ _ _ _;refine aD fun _ K=>?_;simp only[kd,aa,hql];apply K
    refine aX (G:=Qu q) (fun g=>⟨(slI M::jk::.raw (.bool false)::jk::.one (.p (.sl (ls fI q)))::j4 (j4 (jk::jk::slI M::rN M.length::rN i::j4 (j4 (.one (.p (.sl (ls fI q)))::rN M.length::rN g.j::j4 (j4 (jk::jk::jk::[]))))))),Hm []⟩) (fun g=>q.length-g.j) ⟨0,by omega,fun a ha=>by omega⟩ ?_ ?_
    ·refine aE trivial ?_;simp[wk]
    rintro⟨j,hj,okj⟩;simp only;by_cases hm2:j<q.length
    ·obtain⟨x,hx⟩: ∃x,q[j]?=some x:=⟨q[j],List.getElem?_eq_getElem hm2⟩;refine aD fun _ K=>?_;simp(disch:=omega) only[kd,jD,slI];apply K
     refine bx rfl ?_;refine aF (aK ?_);refine aD fun _ K=>?_;simp(disch:=omega) only[kd,jD,aa,hx];apply K
     by_cases hlo:x< -1125899906842624
     ·have hr0:r=false:=by
       cases r with
       |false=>rfl
       |true=>have:=((hr.1 rfl).2 q hqm).2 x (List.mem_of_getElem? hx);omega
      subst hr0;refine aD fun _ K=>?_;simp(disch:=omega) only[kd,jD,aa,reduceCtorEq];apply K
      refine aU rfl ?_;refine aD fun _ K=>?_;simp only[kd];apply K
      (refine aH ⟨.inr rfl,aJ rfl ?_ rfl⟩;simp(disch:=omega) only[kd,jD,Tryz.results37])
     by_cases hhi:1125899906842624<x
     ·have hr0:r=false:=by
       cases r with
       |false=>rfl
       |true=>have:=((hr.1 rfl).2 q hqm).2 x (List.mem_of_getElem? hx);omega
      subst hr0;refine aD fun _ K=>?_;simp(disch:=omega) only[kd,jD,aa];apply K
      refine aU rfl ?_;refine aD fun _ K=>?_;simp only[kd];apply K
      (refine aH ⟨.inr rfl,aJ rfl ?_ rfl⟩;simp(disch:=omega) only[kd,jD,Tryz.results37])
     refine aD fun _ K=>?_;simp(disch:=omega) only[kd,jD,aa];apply K
     refine aQ rfl (aM ?_);show bo _ _ _ _;refine aL fun _ K=>?_;simp(disch:=omega) only[kd,jD,aO];apply K
     refine⟨⟨j+1,by omega,fun b hb y hy=>?_⟩,by simp only;omega,aE trivial ?_⟩
     ·by_cases e:b=j
      ·subst e;rw[hx]at hy;injection hy with hy
       omega
      exact okj b (by omega) y hy
     simp[wk]
    refine aD fun _ K=>?_;simp(disch:=omega) only[kd,jD,slI];apply K
    refine bG rfl ?_;show bo _ _ _ _;refine aL fun _ K=>?_;simp(disch:=omega) only[kd,jD,aO];apply K
    refine⟨⟨i+1,by omega,fun a ha q' hq'=>?_⟩,by simp only;omega,aE trivial ?_⟩
    ·by_cases e:a=i
     ·subst e;rw[hq]at hq';injection hq' with hq'
      subst hq';refine⟨hql,fun x hx=>?_⟩;obtain⟨b,hb⟩:=List.mem_iff_getElem?.1 hx;exact okj b (by have:=(List.getElem?_eq_some_iff.1 hb).1;omega) x hb
     exact ok a (by omega) q' hq'
    simp[wk]
   have hr0:r=false:=by
    cases r with
    |false=>rfl
    |true=>exact absurd ((hr.1 rfl).2 q hqm).1 hql
   subst hr0;refine aF (aD fun _ K=>?_);simp(disch:=omega) only[kd,jD,aa];apply K;refine aU rfl ?_;refine aD fun _ K=>?_;simp only[kd];apply K
   (refine aH ⟨.inr rfl,aJ rfl ?_ rfl⟩;simp(disch:=omega) only[kd,jD,Tryz.results37])
  have hall: ∀q∈M,RwOk M.length q:=fun q hq=>by
   obtain⟨a,ha⟩:=List.mem_iff_getElem?.1 hq;exact ok a (by have:=(List.getElem?_eq_some_iff.1 ha).1;omega) q ha
  have hr1:r=true:=hr.2 ⟨hlen,hall⟩;subst hr1;refine aD fun _ K=>?_;simp(disch:=omega) only[kd,jD,slI];apply K
  refine bG rfl ?_;show bo _ _ _ _;refine aD fun _ K=>?_;simp only[kd];apply K
  (refine aH ⟨.inr rfl,aJ rfl ?_ rfl⟩;simp(disch:=omega) only[kd,jD,Tryz.results37])
 have hr0:r=false:=by
  cases r with
  |false=>rfl
  |true=>exact absurd (hr.1 rfl).1 hlen
 subst hr0;by_cases h1:M.length<1
 ·refine aI Tryz.func37 rfl (by kernel_rfl) ?_;rw[Tryz.ntmps37];refine aD fun _ K=>?_;simp only[kd,slI,ae];apply K
  refine aF (aD fun _ K=>?_);simp(disch:=omega) only[kd,jD,aa,reduceCtorEq];apply K;refine aU rfl ?_;refine aD fun _ K=>?_;simp only[kd];apply K
  (refine aH ⟨.inr rfl,aJ rfl ?_ rfl⟩;simp(disch:=omega) only[kd,jD,Tryz.results37])
 refine aI Tryz.func37 rfl (by kernel_rfl) ?_;rw[Tryz.ntmps37];refine aD fun _ K=>?_;simp only[kd,slI,ae];apply K
 refine aF (aD fun _ K=>?_);simp(disch:=omega) only[kd,jD,aa];apply K;refine aU rfl ?_;refine aD fun _ K=>?_;simp only[kd];apply K
 (refine aH ⟨.inr rfl,aJ rfl ?_ rfl⟩;simp(disch:=omega) only[kd,jD,Tryz.results37])
/-! The gf of a row of small coefficients. -/
theorem LU (n:Nat) (f:FF) (c:Nat->Int) (hn1:1<=n) (hn:n<=4) (hf: ∀i j,i<n->j<n-> -1125899906842624<=f i j/\f i j<=1125899906842624) (hc: ∀j,-1<=c j/\c j<=1):
  CallC Tryz.prog 82 [slI (mat n n f),iP (bA n c)] ⟨[],.raw (.int .i64 (nrm n f c))⟩:=by
 have hcl:=bs n c;refine aI Tryz.func82 rfl (by kernel_rfl) ?_;rw[Tryz.ntmps82];refine aD fun _ K=>?_;simp only[kd,slI,iP,aa,ae];apply K
 refine aD fun _ K=>?_;simp only[kd];apply K
 refine aF (aD fun _ K=>?_);simp only[kd,aa,hcl];apply K;refine aX (G:=jA n) (fun g=>⟨(slI (mat n n f)::iP (bA n c)::jk::jk::jk::.raw (.int .i64 (nS n f c g.i 0))::jk::jk::jk::rN n::rN g.i::j16 (j4 (j4 (j4 (jk::[]))))),Hm []⟩) (fun g=>n-g.i) ⟨0,by omega⟩ ?_ ?_
 ·refine aE trivial ?_;simp[wk,nS,bP]
 rintro⟨i,hi⟩;simp only;by_cases hm:i<n
 ·have hr:=bv n f hm;have hci:=aT c hm;refine aD fun _ K=>?_;simp(disch:=omega) only[kd,jD,slI,iP];apply K
  refine bx rfl ?_;refine aF (aK ?_);refine aD fun _ K=>?_;simp only[kd];apply K
  refine aD fun _ K=>?_;simp only[kd,aa,hcl];apply K
  refine aX (G:=jA n) (fun g=>⟨(slI (mat n n f)::iP (bA n c)::jk::jk::jk::.raw (.int .i64 (nS n f c i g.i))::rN i::jk::jk::rN n::rN i::jk::jk::jk::rN n::rN g.i::j16 (j4 (j4 ([])))),Hm []⟩) (fun g=>n-g.i) ⟨0,by omega⟩ ?_ ?_
  ·refine aE trivial ?_;simp[wk]
  rintro⟨j,hj⟩;simp only;by_cases hjn:j<n
  ·have hg:=aT (f i) hjn;have hcj:=aT c hjn;have b1:=hf i j hm hjn;have b2:=jy (hc i) b1;have b3:=jy (hc j) b2;have b4:=DK hf hc hm hj;have b5:=DK hf hc hm (j:=j+1) (by omega);have b6:=jy (hc j) (show -1<=c i/\c i<=1 from hc i);have e1:IntKind.i64.wrap (c i*c j)=c i*c j:=aO (by omega) (by omega);have e0:c i*c j*f i j=f i j*c i*c j:=by grind
   have e2:IntKind.i64.wrap (c i*c j*f i j)=f i j*c i*c j:=by rw[e0];exact aO (by omega) (by omega)
   have e4:nS n f c i j+f i j*c i*c j=nS n f c i (j+1):=by
    unfold nS;rw[bP,show Lt f c i j=f i j*c i*c j from rfl,Int.add_assoc]
   have hb:((i:Int)+1)*((n:Int)*1125899906842624)<=18014398509481984:=by
    have:((i:Int)+1)*((n:Int)*1125899906842624)<=4*((n:Int)*1125899906842624):=Int.mul_le_mul_of_nonneg_right (by omega) (by omega);omega
   have e3:IntKind.i64.wrap (nS n f c i (j+1))=nS n f c i (j+1):=aO (by omega) (by omega);refine aD fun _ K=>?_;simp(disch:=omega) only[kd,jD,slI,iP];apply K
   refine bx rfl ?_;refine aF (aK ?_);refine aD fun _ K=>?_;simp only[kd];apply K
   refine gP be (by kernel_rfl) fun _ K=>?_;simp(disch:=omega) only[kd,jD,aa,hci,hcj,e1,hr,fR,hg,e2,e4,e3];apply K
   show bo _ _ _ _;refine aL fun _ K=>?_;simp(disch:=omega) only[kd,jD,aO];apply K
   refine⟨⟨j+1,by omega⟩,by simp only;omega,aE trivial ?_⟩;simp[wk]
  have hjn:j=n:=by omega
  subst hjn;refine aD fun _ K=>?_;simp(disch:=omega) only[kd,jD,slI,iP];apply K
  refine bG rfl ?_;show bo _ _ _ _;refine aL fun _ K=>?_;simp(disch:=omega) only[kd,jD,aO];apply K
  refine⟨⟨i+1,by omega⟩,by simp only;omega,aE trivial ?_⟩;rw[Iq];simp[wk]
 have hin:i=n:=by omega
 subst hin;refine aD fun _ K=>?_;simp(disch:=omega) only[kd,jD,slI,iP];apply K
 refine bG rfl ?_;show bo _ _ _ _;rw[Ip];refine aD fun _ K=>?_;simp only[kd];apply K
 (refine aH ⟨.inr rfl,aJ rfl ?_ rfl⟩;simp(disch:=omega) only[kd,jD,Tryz.results82])
/-! The next list of coefficients. -/
theorem E6 {c j:Nat} (h:c%3^j=3^j-1):c+1=3^j*(c/3^j+1):=by
 have h1:=Nat.div_add_mod c (3^j);have h2:0<3^j:=Nat.pow_pos (by omega);rw[Nat.mul_add,Nat.mul_one];omega
theorem K2 {c j:Nat} (h:c%3^j=3^j-1) (hd:dg c j<1) (b:Nat):dg (c+1) b=if b<j then -1 else if b=j then dg c j+1 else dg c b:=by
 have hs:=E6 h;have hp: ∀k,0<3^k:=fun k=>Nat.pow_pos (by omega)
 have hd2:c/3^j%3<2:=by unfold dg at hd;omega
 unfold dg;split
 ·rename_i hb;obtain⟨m,rfl⟩: ∃m,j=b+1+m:=⟨j-b-1,by omega⟩;rw[hs,Nat.pow_add,Nat.pow_succ,show 3^b*3*3^m*(c/(3^b*3*3^m)+1)=3^b*(3*(3^m*(c/(3^b*3*3^m)+1))) by grind,Nat.mul_div_cancel_left _ (hp b),Nat.mul_mod_right];rfl
 split
 ·rename_i hb;subst hb;rw[hs,Nat.mul_div_cancel_left _ (hp b)];omega
 rename_i hb1 hb2;obtain⟨m,rfl⟩: ∃m,b=j+1+m:=⟨b-j-1,by omega⟩;have e1: ∀x,x/3^(j+1+m)=x/3^j/3/3^m:=fun x=>by rw[Nat.pow_add,Nat.pow_succ,<- Nat.div_div_eq_div_mul,<- Nat.div_div_eq_div_mul]
 rw[e1,e1,hs,Nat.mul_div_cancel_left _ (hp j),show(c/3^j+1)/3=c/3^j/3 by omega]
theorem Ic {c j:Nat} (h:c%3^j=3^j-1) (hd: ¬dg c j<1):c%3^(j+1)=3^(j+1)-1:=by
 have hd2:c/3^j%3=2:=by
  have:=Nat.mod_lt (c/3^j) (show 0<3 by omega);unfold dg at hd;omega
 have h2:0<3^j:=Nat.pow_pos (by omega);rw[Nat.pow_succ,Nat.mod_mul,h,hd2];omega
def O2 (i c:Nat):Nat->Int:=if c+1<3^i then cnd i (c+1)else fun b=>if b<i then -1 else cnd i c b
def BV (i c j:Nat):Nat->Int:=fun b=>if b<j then -1 else cnd i c b
theorem ID (i c:Nat):BV i c 0=cnd i c:=by funext b;unfold BV;rw[if_neg (by omega)]
theorem Oj {i c j:Nat} (hj:j<i):BV i c j j=dg c j:=by unfold BV cnd;rw[if_neg (by omega),if_pos hj]
theorem IC (i c j:Nat):(fun b=>if b=j then -1 else BV i c j b)=BV i c (j+1):=by
 funext b;unfold BV;by_cases h:b=j
 ·subst h;rw[if_pos rfl,if_pos (by omega)]
 by_cases h2:b<j
 ·rw[if_neg h,if_pos h2,if_pos (by omega)]
 rw[if_neg h,if_neg h2,if_neg (by omega)]
theorem LE {i c j:Nat} (h:c%3^j=3^j-1) (hd:dg c j<1) (hj:j<i):(fun b=>if b=j then dg c j+1 else BV i c j b)=cnd i (c+1):=by
 funext b;have:=K2 h hd b;unfold BV cnd;by_cases h1:b<i
 ·rw[if_pos h1,if_pos h1,this];by_cases h2:b<j
  ·rw[if_neg (by omega),if_pos h2,if_pos h2]
  rw[if_neg h2,if_neg h2]
 rw[if_neg h1,if_neg h1,if_neg (by omega),if_neg (by omega)]
theorem JG {c i:Nat} (h:c%3^i=3^i-1) (hc:c<3^i): ¬c+1<3^i:=by
 rw[Nat.mod_eq_of_lt hc]at h;have h2:0<3^i:=Nat.pow_pos (by omega);omega
theorem Hy {c i j:Nat} (hj:j<i) (hc:c<3^i) (hd:dg c j<1):c+1<3^i:=by
 refine Nat.lt_of_not_le fun hle=>?_
 have e:c+1=3^i:=by omega
 obtain⟨m,rfl⟩: ∃m,i=j+1+m:=⟨i-j-1,by omega⟩;have hp:0<3^j:=Nat.pow_pos (by omega);have hp2:0<3^m:=Nat.pow_pos (by omega);have e2:c=3^j*(3*3^m-1)+(3^j-1):=by
  have:3^(j+1+m)=3^j*(3*3^m):=by rw[Nat.pow_add,Nat.pow_succ,Nat.mul_assoc]
  obtain⟨z,hz⟩: ∃z,3*3^m=z+1:=⟨3*3^m-1,by omega⟩;rw[this,hz]at e;rw[hz,Nat.add_sub_cancel];rw[Nat.mul_add,Nat.mul_one]at e;omega
 have e3:c/3^j=3*3^m-1:=by
  rw[e2,Nat.mul_add_div hp,Nat.div_eq_of_lt (by omega),Nat.add_zero]
 unfold dg at hd;rw[e3]at hd;omega
structure QK (i c:Nat) where
 j:Nat
 hj:j<=i
 lo:c%3^j=3^j-1
theorem LT (n i c:Nat) (h0:0<i) (hi:i<n) (hn:n<=4) (hc:c<3^i):
  oT Tryz.prog 81 [.undef] 0 0 i ⟨2,1,lc fI (bA n (cnd i c))⟩ ⟨2,1,lc fI (bA n (O2 i c))⟩ (.raw (.bool (decide (c+1<3^i)))):=by
 refine o8 Tryz.func81 rfl (by kernel_rfl) (by simp) h0 (by simp[lc,bs];omega) (dp _ _) rfl (by simp[lc,bs]) (dp _ _) rfl ?_;rw[Tryz.ntmps81];refine aV (by kernel_rfl) fun _ K=>?_;simp only[kd,ae];apply K
 refine bT (aV (by kernel_rfl) fun _ K=>?_);simp only[kd,aa];apply K;refine fF (G:=QK i c) (fun g=>⟨(.one (.sl 0 0 0 i)::jk::jk::jk::.one (.sl 0 0 0 i)::rN i::rN g.j::j16 (jk::[])),Hm [(0,[⟨2,1,lc fI (bA n (BV i c g.j))⟩])]⟩) (fun g=>i-g.j) ⟨0,by omega,by simp;omega⟩ ?_ ?_
 ·refine aE ⟨?_,trivial⟩ ?_
  ·simp[ID,famH]
  simp[wk]
 rintro⟨j,hj,lo⟩;simp only;by_cases hm:j<i
 ·have g1:=aT (m:=n) (BV i c j) (j:=j) (by omega);rw[Oj hm]at g1;have hb:=yV c j;by_cases hd:dg c j<1
  ·have hlt:=Hy hm hc hd;have e1:IntKind.i64.wrap (dg c j+1)=dg c j+1:=aO (by omega) (by omega);have s1:=nt n j (BV i c j) (dg c j+1);rw[LE lo hd hm]at s1;have eR:O2 i c=cnd i (c+1):=if_pos hlt;rw[decide_eq_true hlt,eR];generalize dg c j=d at*
   generalize cnd i (c+1)=X at*
   refine aV (by kernel_rfl) fun _ K=>?_;simp(disch:=omega) only[kd,jD];apply K
   refine qc rfl ?_;refine bT (dX ?_);refine aV (by kernel_rfl) fun _ K=>?_;simp only[kd];apply K
   refine bT (aV (by kernel_rfl) fun _ K=>?_);simp(disch:=omega) only[kd,jD,aa,g1];apply K;refine jg rfl ?_;refine aV (by kernel_rfl) fun _ K=>?_;simp(disch:=omega) only[kd,jD,aa,g1,e1,s1];apply K
   refine eF.weak (aE (tm:=(.one (.sl 0 0 0 i)::j16 (j4 (jk::jk::jk::[])))) (l:=[(0,[⟨2,1,lc fI (bA n X)⟩])]) ⟨rfl,trivial⟩ (by simp[wk])) ?_;refine aV (by kernel_rfl) fun _ K=>?_;simp only[kd];apply K
   refine mZ ⟨.inr rfl,_,ca.refl _,rfl,li _,?_⟩;simp(disch:=omega) only[kd,jD,Tryz.results81]
  have s1:=nt n j (BV i c j) (-1);rw[IC]at s1;refine aV (by kernel_rfl) fun _ K=>?_;simp(disch:=omega) only[kd,jD];apply K
  refine qc rfl ?_;refine bT (dX ?_);refine aV (by kernel_rfl) fun _ K=>?_;simp only[kd];apply K
  refine bT (aV (by kernel_rfl) fun _ K=>?_);simp(disch:=omega) only[kd,jD,aa,g1];apply K;refine gQ rfl (ff ?_);show eF _ _ _ _ _;refine df (by kernel_rfl) fun _ K=>?_;simp(disch:=omega) only[kd,jD,aa,g1,s1];apply K
  show eF _ _ _ _ _;refine df (by kernel_rfl) fun _ K=>?_;simp(disch:=omega) only[kd,jD,aO];apply K
  refine⟨⟨j+1,by omega,Ic lo hd⟩,by simp only;omega,aE ⟨rfl,trivial⟩ ?_⟩;simp[wk]
 have hji:j=i:=by omega
 subst hji;have hnlt:=JG lo hc;have eR:O2 j c=BV j c j:=if_neg hnlt;rw[decide_eq_false hnlt,eR];generalize BV j c j=X at*
 refine aV (by kernel_rfl) fun _ K=>?_;simp(disch:=omega) only[kd,jD];apply K
 refine sJ rfl ?_;show eF _ _ _ _ _;refine aV (by kernel_rfl) fun _ K=>?_;simp only[kd];apply K
 refine mZ ⟨.inr rfl,_,ca.refl _,rfl,li _,?_⟩;simp(disch:=omega) only[kd,jD,Tryz.results81]
theorem zzZ:CallC Tryz.prog 81 [.one (.p (.sl []))] ⟨[],.raw (.bool false)⟩:=by
 refine aI Tryz.func81 rfl (by kernel_rfl) ?_;rw[Tryz.ntmps81];refine aD fun _ K=>?_;simp only[kd,ae];apply K
 refine aF (aD fun _ K=>?_);simp only[kd,aa];apply K;refine aX (G:=Unit) (fun g=>⟨(j4 (jk::.raw (.int .i64 0)::.raw (.int .i64 0)::j16 (jk::[]))),Hm []⟩) (fun g=>0) () ?_ ?_
 ·refine aE trivial ?_;simp[wk]
 intro _;refine aD fun _ K=>?_;simp(disch:=omega) only[kd,jD];apply K
 refine bG rfl ?_;show bo _ _ _ _;refine aD fun _ K=>?_;simp only[kd];apply K
 (refine aH ⟨.inr rfl,aJ rfl ?_ rfl⟩;simp(disch:=omega) only[kd,jD,Tryz.results81])
end Go.Proofs.YtfgeomlagfomgaaGreatDoor
