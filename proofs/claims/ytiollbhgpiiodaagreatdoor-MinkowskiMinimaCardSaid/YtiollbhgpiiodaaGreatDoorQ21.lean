/-
  Part 22 of a proof (walks and plain facts).
-/
import Derived.Test.YtiollbhgpiiodaaGreatDoorQ20
set_option linter.all false
set_option maxRecDepth 100000
set_option maxHeartbeats 64000000
open Nat renaming reduceAdd → aa
open Nat renaming le_refl → ac
open List renaming replicate → ae
open List renaming mem_map → ak
open List renaming getElem?_append_left → ap
open List renaming getElem?_eq_none → ar
open List renaming length_map → ax
open List renaming length_replicate → ay
open List renaming getElem?_map → az
namespace Go.Proofs.YtiollbhgpiiodaaGreatDoor
open Go.RowKit
theorem As (k c:Nat) (F:FF) (b:Bool):jK ⟨dv 0 k c F,vD k b⟩:=by
 refine⟨rfl,fun o ho e he x hx=>?_⟩;rcases List.mem_cons.1 ho with rfl|ho
 ·simp only[gL,List.mem_mapIdx]at he;obtain⟨i,_,rfl⟩:=he;simp at hx;subst hx;rfl
 obtain⟨r,_,rfl⟩:=List.mem_map.1 ho;simp only[kG,lc,ak]at he;obtain⟨z,_,rfl⟩:=he;simp[fI]at hx;subst hx;rfl
theorem D1 {ops:Array Oper} {m d k c:Nat} {F:FF} {b:Bool} {s:AS} (hd:cwD ops m=some d):F8 ops m ⟨dv 0 k c F,vD k b⟩ s=AS.put ⟨s.tmps,be s.H d (dv d k c F)⟩ (some d) (.tup [(false,[.sl d 0 0 k]),(false,[.p (.raw (.bool b))])]):=by
 unfold F8;rw[hd];simp only[cQ];rfl
/-! The Gram matrix of short rows. -/
theorem FA {n:Nat} {h S:FF} (hn1:1<=n) (hn:n<=4) (hr:RedR h n) (hS: ∀a,a<n->GdR n h (S a)) {a b:Nat} (ha:a<n) (hb:b<n):
  vG (bi n n h) (bi n n S) a b=gmB n h S a b:=by
 unfold vG;rw[qT S ha,qT S hb];exact Gw hn1 (by omega) hr ((hS a ha).co hn1 hn hr) ((hS b hb).co hn1 hn hr)
theorem Pt {n:Nat} {h S:FF} (hn1:1<=n) (hn:n<=4) (hr:RedR h n) (hS:InB2 n h 262144 S):Va (bi n n h) (bi n n S):=by
 refine⟨um hn1 (by omega) hr,fun i hi j hj=>?_⟩;rw[aW]at hi hj;have g:=nC hr.pd hS hi hj 262144 (by decide);refine⟨?_,?_,?_,?_⟩
 ·rw[aW,qT S hi];exact lJ ((show GdR n h (S i)from hS.nr i hi).co hn1 hn hr)
 ·rw[aW,qT S hj];exact lJ ((show GdR n h (S j)from hS.nr j hj).co hn1 hn hr)
 ·rw[FA hn1 hn hr hS.nr hi hj];omega
 rw[FA hn1 hn hr hS.nr hi hj];omega
theorem Es {n:Nat} {h S:FF} (hn1:1<=n) (hn:n<=4) (hr:RedR h n) (hS:InB2 n h 262144 S):
  CallC Tryz.prog 21 [dj (bi n n h),dj (bi n n S)] ⟨dv 0 n n (gmB n h S),vD n true⟩:=by
 have c:=P3 (bi n n h) (bi n n S) (by rw[aW];omega);rw[x4 (Pt hn1 hn hr hS),aW]at c;have e:dv 0 n n (vG (bi n n h) (bi n n S))=dv 0 n n (gmB n h S):=by
  show _::_=_::_;rw[cy fun a b ha hb=>FA hn1 hn hr hS.nr ha hb]
 rwa[e]at c
/-! The sum of rows. -/
def sR (n:Nat) (c:Nat->Int) (S:FF) (r:Nat):Nat->Int:=fun j=>smF (fun a=>c a*S a j) r
def Kd (n:Nat) (c:Nat->Int) (S:FF) (r j:Nat):Nat->Int:=fun b=>if b<j then sR n c S (r+1) b else sR n c S r b
theorem Nc {n:Nat} {c:Nat->Int} {S:FF} (hc: ∀j,-1<=c j/\c j<=1) (hS: ∀a,a<n-> ∀j,j<n-> -1099511627776<=S a j/\S a j<=1099511627776) (j:Nat) (hj:j<n):
  ∀r,r<=n-> -((r:Int)*1099511627776)<=sR n c S r j/\sR n c S r j<=(r:Int)*1099511627776
 |0,_=>by simp[sR,smF]
 |r+1,h=>by
  have ih:=Nc hc hS j hj r (by omega);have h1:=hS r (by omega) j hj;have h2:=hc r;have e:sR n c S (r+1) j=sR n c S r j+c r*S r j:=rfl;have h3:c r= -1\/c r=0\/c r=1:=by omega
  rw[e];have h4:((r+1:Nat):Int)*1099511627776=(r:Int)*1099511627776+1099511627776:=by omega
  rw[h4];rcases h3 with h3|h3|h3<;>rw[h3]<;>omega
theorem Nf (n:Nat) (c:Nat->Int) (S:FF) (r:Nat):Kd n c S r 0=sR n c S r:=by
 funext b;unfold Kd;rw[if_neg (by omega)]
theorem Qr (n:Nat) (c:Nat->Int) (S:FF) (r:Nat):bj n (Kd n c S r n)=bj n (sR n c S (r+1)):=gn fun b hb=>by unfold Kd;rw[if_pos hb]
theorem Tz (n:Nat) (c:Nat->Int) (S:FF) (r j:Nat):Kd n c S r j j=sR n c S r j:=by unfold Kd;rw[if_neg (by omega)]
theorem GG (n j:Nat) (g:Nat->Int) (v:Int):(lc fI (bj n g)).set j [.p (.raw (.int .i64 v))]=lc fI (bj n (fun b=>if b=j then v else g b)):=by
 rw[<- rp,<- zR];rfl
theorem Nd (n:Nat) (c:Nat->Int) (S:FF) (r j:Nat):(fun b=>if b=j then sR n c S r j+c r*S r j else Kd n c S r j b)=Kd n c S r (j+1):=by
 funext b;unfold Kd;by_cases h:b=j
 ·subst h;rw[if_pos rfl,if_pos (by omega)];rfl
 by_cases h2:b<j
 ·rw[if_neg h,if_pos h2,if_pos (by omega)]
 rw[if_neg h,if_neg h2,if_neg (by omega)]
theorem VT (n:Nat) (c:Nat->Int) (S:FF):kG (bj n (sR n c S 0))=⟨2,1,ae n [.p (.raw (.int .i64 0))]⟩:=by
 have e:bj n (sR n c S 0)=ae n 0:=by
  apply List.ext_getElem?;intro j;by_cases hj:j<n
  ·rw[aQ _ hj,List.getElem?_replicate,if_pos hj];rfl
  rw[ar (by rw[bf];omega),ar (by simp;omega)]
 rw[kG,e,lc,List.map_replicate];rfl
theorem MV (n:Nat) (h S:FF) (i:Nat):kp n h S i i=sR n (lB n (gmB n h S) i (3^i)) S n:=by
 unfold kp;rw[if_pos rfl];rfl
def Vl (d n i:Nat) (S:FF) (X:Nat->Int):List OObj:=⟨34,1,(gL d (ae n n)).set i [.sl d (n+1) 0 n]⟩::((bi n n S).map kG++[kG (bj n X)])
theorem Tg {d n i:Nat} (S S':FF) (hi:i<n) (hS': ∀k,k≠i->S' k=S k) (r:Nat):
  (dv d n n S'++[kG (bj n (S i))])[r]?=((Vl d n i S (S' i))[sw (i+1) (n+1) r]?).map (w8 d (i+1) (n+1)):=by
 have hO: ∀l:List Int,w8 d (i+1) (n+1) (kG l)=kG l:=fun l=>by
  simp only[w8,kG,lc,List.map_map]
  congr 1
 have hlen:((bi n n S).map kG).length=n:=by rw[ax,aW]
 cases r with
 |zero=>
  rw[show sw (i+1) (n+1) 0=0 by simp[sw]];unfold Vl;simp only[List.cons_append,List.getElem?_cons_zero,Option.map_some,w8]
  congr 2
  apply List.ext_getElem?;intro k;rw[az,List.getElem?_set,cf,ay];by_cases hk:k<n
  ·rw[bJ d n hk];by_cases h1:i=k
   ·subst h1;have hin: ¬n=i:=by omega
    simp[hi,hin,kw,pn,sw]
   have h1': ¬k=i:=fun e=>h1 e.symm
   have h2: ¬k=n:=by omega
   simp[h1,h1',h2,kw,pn,sw]
  rw[if_neg (by omega),ar (by rw[cf,ay];omega)];rfl
 |succ r=>
  have hsw:sw (i+1) (n+1) (r+1)=sw i n r+1:=by
   unfold sw;by_cases h1:r=i
   ·simp[h1]
   by_cases h2:r=n
   ·simp[h2,show ¬n=i by omega]
   simp[h1,h2]
  rw[hsw];unfold Vl;rw[List.cons_append,List.getElem?_cons_succ,List.getElem?_cons_succ];by_cases h1:r=i
  ·subst h1;rw[show sw r n r=n by simp[sw],ap (by rw[ax,aW];exact hi),List.getElem?_append_right (by rw[hlen];omega),hlen,Nat.sub_self];rw[az,bx _ _ hi];simp[hO]
  by_cases h2:r=n
  ·subst h2;rw[show sw i r r=i by simp[sw,h1],List.getElem?_append_right (by rw[ax,aW];omega),ap (by rw[hlen];exact hi),ax,aW,Nat.sub_self];rw[az,bx _ _ hi];simp[hO]
  rw[show sw i n r=r by simp[sw,h1,h2]];by_cases hr:r<n
  ·rw[ap (by rw[ax,aW];exact hr),ap (by rw[hlen];exact hr),az,az,bx _ _ hr,bx _ _ hr,hS' r h1];simp[hO]
  rw[ar (by simp[aW];omega),ar (by simp[aW];omega)];rfl
theorem Jb (d n c:Nat) (f:FF): ∀q∈dv d n c f,∀e∈q.elems,∀x∈e,zf (dv d n c f).length x:=fun q hq e he x hx=>by
 have hl:(dv d n c f).length=n+1:=by simp[aW]
 rw[hl];simp only[List.mem_cons,ak]at hq;rcases hq with rfl|⟨r,_,rfl⟩
 ·obtain⟨k,hk⟩:=List.mem_iff_getElem?.1 he;have hkn:k<n:=by
   have:=(List.getElem?_eq_some_iff.1 hk).1;simpa[cf] using this
  simp only at hk;rw[bJ d c hkn]at hk;injection hk with hk
  subst hk;simp at hx;subst hx;show k+1<n+1;omega
 simp only[kG,lc,ak]at he;obtain⟨z,_,rfl⟩:=he;simp[fI]at hx;subst hx;trivial
structure VD (n:Nat) (h R:FF) where
 B:Nat->Nat->Int
 rch:RchB n h B R
 inb:InB2 n h 262144 B
theorem EG (n:Nat) (h R:FF) (hn1:1<=n) (hn:n<=4) (hr:RedR h n) (hR:RchB n h idF R):
  CallG Tryz.prog 0 162 19 [dj (bi n n h)] ir ⟨dv 0 n n R,.one (.sl 0 0 0 n)⟩:=by
 have hml:=aW n n h;refine gf Tryz.func19 rfl (by kernel_rfl) ?_;rw[Tryz.ntmps19];refine pj (k:=?_);refine dS.weak ((nf 1 1 (cs:=f9 (bi n n h)) rfl rfl).trans (aE (tm:=(jk::.one (.p (.ptr (f9 (bi n n h))))::j16 (j16 (j16 (j16 (j16 (j4 (jk::jk::[])))))))) (l:=[]) trivial (by simp[wk,gX,fX]))) ?_;refine gC hml (k:=bM (dn (k:=?_)));refine eH (G:=iJ n) (fun g=>⟨(jk::.one (.p (.ptr (f9 (bi n n h))))::jk::.one (.sl 17 0 0 n)::j4 (j4 (j4 (jk::jk::jk::rN n::rN g.i::j16 (j16 (j16 (j16 (jk::jk::jk::[])))))))),Hm [(17,kI 17 n n g.i (rJ g.i))]⟩) (fun _=>ir) (fun g=>n-g.i) ⟨0,by omega⟩ ?_ rfl ?_
 ·refine aE ⟨?_,trivial⟩ ?_
  ·show[_]=_;simp[kI,gL,bi]
  simp[wk]
 rintro⟨i,hi⟩;simp only;by_cases hm:i<n
 ·have k1:=sk (i:=i) (n:=n) 17 n hm;have k2:=ki (i:=i) (n:=n) 17 n hi;have k3:=aW i n (rJ i);have k4:=oJ (i:=i) (n:=n) (c:=n) 17 (rJ i) hm (fun j hj=>by unfold rJ;rw[if_neg (by omega)]);have k5:=sj (i:=i+1) (k:=i) (n:=n) 17 n (by omega);have k6:=ki (i:=i+1) (n:=n) 17 n (by omega);have k7:=cT (n:=i+1) n (rJ i) (i:=i) (by omega);have k8:=aQ (rJ i i) hm;refine dn (k:=io rfl (bM (cY (dn (k:=gC (aP hml (aP k1 (aP @ay.{0} (aP @List.all_replicate.{0} (aP k3 k4))))) (k:=?_))))));refine dS.weak (aE (tm:=(jk::.one (.p (.ptr (f9 (bi n n h))))::jk::.one (.sl 17 0 0 n)::rN i::j4 (j4 (j4 (jk::jk::rN n::rN i::j16 (j16 (j16 (j16 (jk::jk::jk::[]))))))))) (l:=[(17,kI 17 n n (i+1) (rJ i))]) ⟨?_,trivial⟩ (by simp[wk])) ?_
  ·first|exact k4|rfl
  refine uV (aP k5 (aP k7 (aP k8 @fO))) (k:=rU (k:=?_));refine⟨⟨i+1,by omega⟩,by simp only;omega,aE ⟨?_,trivial⟩ ?_,rfl⟩
  ·show _::_=_::_;rw[cy fun x y _ _=>wm i x y]
  simp[wk]
 have hin:i=n:=by omega
 subst hin;refine dn (k:=j5 rfl ?_);show dS _ _ _ _ _ _ _;have e:kI 17 i i i (rJ i)=dv 17 i i idF:=by
  rw[pO];show _::_=_::_;rw[cy fun x y hx _=>Ak x y hx]
 rw[e];obtain⟨n,hni⟩: ∃n,n=i:=⟨_,rfl⟩;subst hni;clear e hm hi;refine eH (G:=VD n h R) (fun g=>⟨(jk::.one (.p (.ptr (f9 (bi n n h))))::jk::.one (.sl 17 0 0 n)::j16 (j16 (j16 (j16 (j16 (j4 ([]))))))),Hm [(17,dv 17 n n g.B)]⟩) (fun _=>ir) (fun g=>(Ds (nrm n h) g.B n).toNat) ⟨idF,hR,InB2.one hn1 (by omega) hr⟩ ?_ rfl ?_
 ·refine aE ⟨rfl,trivial⟩ ?_;simp[wk]
 rintro⟨B,rch,inb⟩;simp only;refine cY ?_
 -- the rows in order
 have hS:=inb.ord;have cM:=AE n h B hn1 hn hr inb.nr;rw[show lW (nrm n h) B n=nR n h B from rfl]at cM;have hso:Ds (nrm n h) (nR n h B) n=Ds (nrm n h) B n:=wS _ _ n (ac n);have hnx: ∀i,tM n (gmB n h (nR n h B))=some i->RchB n h (kp n h (nR n h B) i) R:=fun i hv=>by
  cases rch with
  |done B hv'=>rw[hv]at hv';cases hv'
  |step B R j hv' hk=>rw[hv]at hv';cases hv';exact hk
 have hdn:tM n (gmB n h (nR n h B))=none->R=nR n h B:=fun hv=>by
  cases rch with
  |done B hv'=>rfl
  |step B R j hv' hk=>rw[hv]at hv';cases hv'
 have hnn: ∀B',0<=Ds (nrm n h) B' n:=fun B'=>kv n fun a _=>(hr.pd.pos (B' a)).1
 generalize nR n h B=S at*
 have c1:=Es hn1 hn hr hS;have cV:=nL n (gmB n h S) hn1 hn fun i j hi hj=>by
  have:=nC hr.pd hS hi hj 262144 (by decide);omega
 refine bM (l9 (A8 (k:=0) (by simp[wk]) (pA 2 cM 17 [] [] (by kernel_rfl) (by simp[wk]) hn1 rfl (lO _ _ _) (lO _ _ _) (by decide) (by simp[wk]) (by decide) fun K hK=>?_)));simp only[kd,ke];apply hK;clear hK K;refine⟨⟨rfl,(cQ 0 17 _ _ _).symm⟩,by simp[wk],?_⟩;intro K hK;simp only[kd,aa,Ry,cwD,kM];apply hK;clear hK K;show dS _ _ _ _ _ _ _;refine dS.weak (aE (tm:=(jk::.one (.p (.ptr (f9 (bi n n h))))::jk::.one (.sl 17 0 0 n)::j16 (j16 (j16 (j16 (j16 (j4 ([])))))))) (l:=[(17,dv 17 n n S)]) ⟨cQ 0 17 n n _,trivial⟩ (by simp[wk])) ?_
 -- the Gram matrix
 refine bM (l9 (l8 2 c1 (As _ _ _ _) [] [] (by simp[wk]) (by decide) fun K hK=>?_));simp only[kd];apply hK;clear hK K;refine⟨⟨⟨_,rfl,.inl ⟨rfl,rfl⟩,.inr ⟨17,0,0,n,rfl,dG (d:=17) (n:=n) (c:=n) (f:=S) rfl,mZ (d:=17) (n:=n) (c:=n) (f:=S) rfl⟩,trivial⟩,⟨42,rfl,fun _=>rfl⟩⟩,by simp[wk],?_⟩;intro K hK;rw[D1 (d:=42) rfl];simp only[kd,aa];apply hK;clear hK K;show dS _ _ _ _ _ _ _;refine dS.weak (aE (tm:=(jk::.one (.p (.ptr (f9 (bi n n h))))::jk::.one (.sl 17 0 0 n)::jk::.one (.sl 42 0 0 n)::j16 (j16 (j16 (j16 (j16 (jk::jk::[]))))))) (l:=[(17,dv 17 n n S),(42,dv 42 n n (gmB n h S))]) ⟨rfl,rfl,trivial⟩ (by simp[wk])) ?_;refine dS.weak ((bT 42 (dG (d:=42) (n:=n) (c:=n) (f:=gmB n h S) rfl)).trans (aE (tm:=(jk::.one (.p (.ptr (f9 (bi n n h))))::jk::.one (.sl 17 0 0 n)::jk::dj (bi n n (gmB n h S))::j16 (j16 (j16 (j16 (j16 (jk::jk::[]))))))) (l:=[(17,dv 17 n n S)]) ⟨rfl,trivial⟩ (by
  simp[wk]
  (repeat' apply And.intro)<;>first|rfl|exact(mZ (H:=Hm [(17,dv 17 n n S),(42,dv 42 n n (gmB n h S))]) (d:=42) (n:=n) (c:=n) (f:=gmB n h S) rfl).symm))) ?_
 cases hv:tM n (gmB n h S)with
 |none=>
  have eT:qg n (gmB n h S)= .tup [(false,[.p (.raw (.int .i64 0))]),(true,a4 fun _=>0),(false,[.p (.raw (.bool false))])]:=by unfold qg;rw[hv]
  rw[eT]at cV;rw[hdn hv];refine dy [⟨1,_,_,_,cV,rfl⟩] [] [] fun _ K=>?_;simp(disch:=omega) only[kd,dj,fv.a,aa,j6,pB,Nat.reduceEqDiff,dZ,fY];apply K
  refine bM (dn (k:=j1 rfl (dn (k:=?_))));refine fg ⟨.inr rfl,rfl,_,ci.refl _,?_⟩;refine⟨.one (.sl 17 0 0 n),17,?_,rfl,?_,rfl⟩
  ·simp(disch:=omega) only[kd,Tryz.results19]
  exact(cQ 17 0 _ _ _).symm
 |some i=>
  obtain⟨_,hi1,hi2,_⟩:=jY n 0 i hv;have hi:i<n:=by omega
  have hi4:i<4:=by omega
  have eT:qg n (gmB n h S)= .tup [(false,[.p (.raw (.int .i64 (i:Int)))]),(true,a4 (lB n (gmB n h S) i (3^i))),(false,[.p (.raw (.bool true))])]:=by unfold qg;rw[hv]
  rw[eT]at cV;have hc:=(wP n (gmB n h S) i (3^i)).2.2;have hrow:=MV n h S i;have hsum:=CJ hi hi2;have hin2:=hS.rep hi hi2;have hnext:=hnx i hv;have hSb: ∀a,a<n-> ∀j,j<n-> -1099511627776<=S a j/\S a j<=1099511627776:=fun a ha=>(show GdR n h (S a)from hS.nr a ha).co hn1 hn hr
  have hoth: ∀k,k≠i->kp n h S i k=S k:=fun k hk=>by unfold kp;rw[if_neg hk]
  generalize lB n (gmB n h S) i (3^i)=c at*
  refine dy [⟨1,_,_,_,cV,rfl⟩] [] [] fun _ K=>?_;simp(disch:=omega) only[kd,dj,fv.a,aa,j6,pB,Nat.reduceEqDiff,dZ,fY];apply K
  refine bM (dn (k:=jt rfl (fJ (gC hml (k:=?_)))));refine dS.weak (aE (tm:=(jk::.one (.p (.ptr (f9 (bi n n h))))::jk::.one (.sl 17 0 0 n)::jk::jk::jk::rN i::.one (.ptr 8 0 0 0)::jk::.one (.sl 56 0 0 n)::j16 (j16 (j16 (j16 (j4 (j4 (j4 (jk::[]))))))))) (l:=[(17,dv 17 n n S),(8,Dr c),(56,[kG (bj n (sR n c S 0))])]) ⟨rfl,rfl,?_,trivial⟩ (by simp[wk])) ?_
  ·rw[VT];rfl
  refine bM (dn (k:=?_));refine eH (G:=iJ n) (fun g=>⟨(jk::.one (.p (.ptr (f9 (bi n n h))))::jk::.one (.sl 17 0 0 n)::jk::jk::jk::rN i::.one (.ptr 8 0 0 0)::jk::.one (.sl 56 0 0 n)::j16 (j16 (j4 (j4 (j4 (jk::jk::.one (.sl 17 0 0 n)::rN n::rN g.i::j16 (j4 (j4 (j4 ([])))))))))),Hm [(17,dv 17 n n S),(8,Dr c),(56,[kG (bj n (sR n c S g.i))])]⟩) (fun _=>ir) (fun g=>n-g.i) ⟨0,by omega⟩ ?_ rfl ?_
  ·refine aE ⟨rfl,rfl,rfl,trivial⟩ ?_;simp[wk]
  rintro⟨r,hr'⟩;simp only;by_cases hm:r<n
  ·have g1:=bJ (n:=n) (i:=r) 17 n hm;have r1:=cT n S (i:=r) hm;have hr4:r<4:=by omega
   refine dn (k:=io rfl (bM (cY (gC g1 (k:=dn (k:=?_))))));refine eH (G:=iJ n) (fun g=>⟨(jk::.one (.p (.ptr (f9 (bi n n h))))::jk::.one (.sl 17 0 0 n)::jk::jk::jk::rN i::.one (.ptr 8 0 0 0)::jk::.one (.sl 56 0 0 n)::rN r::j16 (j16 (j4 (j4 (j4 (jk::.one (.sl 17 0 0 n)::rN n::rN r::j4 (.one (.sl 17 (r+1) 0 n)::rN n::rN g.i::j16 (j4 (jk::[]))))))))),Hm [(17,dv 17 n n S),(8,Dr c),(56,[kG (bj n (Kd n c S r g.i))])]⟩) (fun _=>ir) (fun g=>n-g.i) ⟨0,by omega⟩ ?_ rfl ?_
   ·refine aE ⟨rfl,rfl,?_,trivial⟩ ?_
    ·simp only[Nf];rfl
    simp[wk]
   rintro⟨j,hj⟩;simp only;by_cases hjn:j<n
   ·have q1:=aQ (S r) hjn;have q2:=aQ (Kd n c S r j) hjn;rw[Tz]at q2;have d1:=yU c hr4;have b1:=Nc hc hSb j hjn r (by omega);have b2:=Nc hc hSb j hjn (r+1) (by omega);have b3:=hSb r hm j hjn;have b4:c r*S r j= -(S r j)\/c r*S r j=0\/c r*S r j=S r j:=by
     have:=hc r;have h3:c r= -1\/c r=0\/c r=1:=by omega
     rcases h3 with h3|h3|h3<;>rw[h3]<;>omega
    have e0:sR n c S (r+1) j=sR n c S r j+c r*S r j:=rfl;have e1:IntKind.i64.wrap (c r*S r j)=c r*S r j:=bu (by omega) (by omega);have e2:IntKind.i64.wrap (sR n c S r j+c r*S r j)=sR n c S r j+c r*S r j:=bu (by omega) (by omega);have e3:=GG n j (Kd n c S r j) (sR n c S r j+c r*S r j);rw[Nd]at e3;refine dn (k:=io rfl (bM (cY (gC (aP r1 q1) (k:=yX (aP @kG.eq_1 (aP q2 (aP hr4 (aP d1 (aP e1 (aP e2 e3)))))) (k:=rU (k:=?_)))))));refine⟨⟨j+1,by omega⟩,by simp only;omega,aE ⟨rfl,rfl,?_,trivial⟩ ?_,rfl⟩
    ·first|rfl|simp[kG]
    simp[wk]
   have hjn:j=n:=by omega
   subst hjn;refine dn (k:=j5 rfl (rU (k:=?_)));refine⟨⟨r+1,by omega⟩,by simp only;omega,aE ⟨rfl,rfl,?_,trivial⟩ ?_,rfl⟩
   ·simp only[Qr];rfl
   simp[wk]
  have hrn:r=n:=by omega
  subst hrn;have g1:=bJ (n:=r) (i:=i) 17 r hi;have hjx:=Tg (d:=17) S (kp r h S i) hi hoth;rw[hrow]at hjx;refine dn (k:=j5 rfl (uV (aP @kG.eq_1 (aP g1 (aP @bf @aW))) (k:=?_)));refine⟨⟨kp r h S i,hnext,hin2⟩,by have:=hnn (kp r h S i);have:=hnn B;simp only;omega,?_,rfl⟩;refine(aE (tm:=(jk::.one (.p (.ptr (f9 (bi r r h))))::jk::.one (.sl 17 0 0 r)::j16 (j16 (j16 (j16 (j16 (j4 ([])))))))) (l:=[(17,Vl 17 r i S (sR r c S r))]) ⟨?_,trivial⟩ (by simp[wk])).trans ?_
  ·rfl
  refine(qn 17 (i+1) (r+1) (dv 17 r r (kp r h S i)++[kG (bj r (S i))]) hjx).trans ?_;refine(H8 17 (F:=dv 17 r r (kp r h S i)) rfl (Jb _ _ _ _)).trans ?_;refine aE ⟨rfl,trivial⟩ ?_;simp[wk,Fg,kw,pn,sw,bo,bs,aW]
abbrev Tu (G T:List (List Int)) (e:Int):TV:= .tup [(false,[.p (.sl (ls (fR fI) G))]),(false,[.p (.sl (ls (fR fI) T))]),(false,[.p (.raw (.int .i64 e))])]
def tG (g R:FF) (m:Nat):Nat->Nat->Int:=fun a b=>if a<m then mG g a*R a b else R a b
def Ke (g R:FF) (m j:Nat):Nat->Nat->Int:=fun a b=>if a=m/\b<j then 0-R m b else tG g R m a b
theorem E4 {g R:FF} {m a:Nat} (h:a<m):tG g R m a=uv g R a:=by
 funext b;unfold tG;rw[if_pos h];rfl
theorem Nr {g R:FF} {m a:Nat} (h: ¬a<m):tG g R m a=R a:=by
 funext b;unfold tG;rw[if_neg h]
theorem Nq (g R:FF) (m:Nat):Ke g R m 0=tG g R m:=by
 funext a b;unfold Ke;rw[if_neg (by omega)]
theorem TD (g R:FF) (m j:Nat):Ke g R m j m j=R m j:=by
 unfold Ke tG;rw[if_neg (by omega),if_neg (by omega)]
theorem Np (g R:FF) (m j a b:Nat):upd (Ke g R m j) m j (0-R m j) a b=Ke g R m (j+1) a b:=by
 unfold upd Ke;by_cases h1:a=m
 ·subst h1;by_cases h2:b=j
  ·subst h2;simp
  by_cases h3:b<j
  ·simp[h2,h3,show b<j+1 by omega]
  simp[h2,h3,show ¬b<j+1 by omega]
 simp[h1]
theorem Qx {g R:FF} {m n:Nat} (hs:mG g m= -1) (a b:Nat) (hb:b<n):Ke g R m n a b=tG g R (m+1) a b:=by
 unfold Ke tG;by_cases h1:a=m
 ·subst h1;rw[if_pos ⟨rfl,hb⟩,if_pos (by omega),hs];omega
 have:a<m+1↔a<m:=by omega
 simp[h1,this]
theorem Ns {g R:FF} {m:Nat} (hs:mG g m=1) (a b:Nat):tG g R m a b=tG g R (m+1) a b:=by
 unfold tG;by_cases h1:a=m
 ·subst h1;rw[if_neg (by omega),if_pos (by omega),hs];omega
 have:a<m+1↔a<m:=by omega
 simp[this]
theorem Qz (g R:FF) (a b:Nat):R a b=tG g R 1 a b:=by
 unfold tG;split
 ·rename_i h;have:a=0:=by omega
  subst this;rw[mG];omega
 rfl
theorem Qy {g R:FF} {n a:Nat} (ha:a<n) (b:Nat):tG g R n a b=uv g R a b:=by rw[E4 ha]
theorem RY {n:Nat} {h:FF} {s:Int} (hs:s=1\/s= -1) (x y:Nat->Int):BF n h (fun j=>s*x j) y=s*BF n h x y:=by
 rcases hs with rfl|rfl
 ·rw[dY (fun _ _ _ _=>rfl) (fun i _=>Int.one_mul (x i)) (fun _ _=>rfl)];omega
 rw[dY (x':=fun r=> - x r) (fun _ _ _ _=>rfl) (fun i _=>by omega) (fun _ _=>rfl),tO];omega
theorem TF {n:Nat} {h g R:FF} (k:Nat):BF n h (tG g R (k+1) k) (tG g R (k+1) (k+1))=mG g k*gmB n h R k (k+1):=by
 rw[E4 (by omega),Nr (by omega)];exact RY (mH g k) _ _
structure VF (n:Nat) where
 k:Nat
 hk:k+1<=n
theorem vU (n:Nat) (h R:FF) (hn1:1<=n) (hn:n<=4) (hr:RedR h n) (inb:InB2 n h 262144 R)
  (cS:CallG Tryz.prog 0 162 19 [dj (bi n n h)] ir ⟨dv 0 n n R,.one (.sl 0 0 0 n)⟩):
  CallG Tryz.prog 0 162 6 [dj (bi n n h)] ir ⟨[],Tu (bi n n (gmB n h (uv (gmB n h R) R))) (bi n n (trF (uv (gmB n h R) R))) 0⟩:=by
 have hml:=aW n n h;have c1:=qY (bi n n h);rw[um hn1 (by omega) hr]at c1;have inq:=inb.sg (gmB n h R);have cG:=Es hn1 hn hr inq;obtain⟨g,hg⟩: ∃g,g=gmB n h R:=⟨_,rfl⟩;rw[<- hg]at inq cG⊢;have gd: ∀m a,a<n->GdR n h (tG g R m a):=fun m a ha=>by
  by_cases hm:a<m
  ·rw[E4 hm];exact inq.nr a ha
  rw[Nr hm];exact inb.nr a ha
 refine gf Tryz.func6 rfl (by kernel_rfl) ?_;rw[Tryz.ntmps6];refine pj (k:=bM (cY (KD [⟨1,_,_,_,c1⟩] (k:=jt rfl (gC hml (k:=jt rfl (fJ ?_)))))));refine dy [⟨1,_,_,_,cS,rfl⟩] [] [] fun _ K=>?_;simp(disch:=omega) only[kd,dj,fv.a,aa];apply K
 refine dS.weak (aE (tm:=(dj (bi n n h)::j4 (.one (.sl 25 0 0 n)::j16 (j16 (j16 (j16 (j16 (j16 (j4 (jk::jk::[])))))))))) (l:=[(25,dv 25 n n R)]) ⟨cQ 0 25 _ _ _,trivial⟩ (by simp[wk])) ?_;refine bM (dn (k:=?_));refine eH (G:=VF n) (fun q=>⟨(dj (bi n n h)::j4 (.one (.sl 25 0 0 n)::.raw (.int .i64 ((q.k+1:Nat):Int))::j16 (j16 (j16 (j16 (j16 (j16 (j4 (jk::[]))))))))),Hm [(25,dv 25 n n (tG g R (q.k+1)))]⟩) (fun _=>ir) (fun q=>n-q.k) ⟨0,by omega⟩ ?_ rfl ?_
 ·refine aE ⟨?_,trivial⟩ ?_
  ·show _::_=_::_;rw[cy fun a b _ _=>Qz g R a b]
  simp[wk]
 rintro⟨k,hk⟩;simp only;by_cases hm:k+1<n
 ·have e0:IntKind.i64.wrap (((k+1:Nat):Int)-1)=(k:Int):=by rw[show((k+1:Nat):Int)-1=(k:Int) by omega];exact bu (by omega) (by omega)
  have e1:IntKind.i64.wrap (((k+1:Nat):Int)+1)=((k+1+1:Nat):Int):=by rw[show((k+1:Nat):Int)+1=((k+1+1:Nat):Int) by omega];exact bu (by omega) (by omega)
  have hv:BF n h (tG g R (k+1) k) (tG g R (k+1) (k+1))=mG g k*g k (k+1):=by rw[TF,hg]
  have hgb:=nC hr.pd inb (show k<n by omega) hm 262144 (by decide);rw[<- hg]at hgb;have hsb:=mH g k;have hsv: -262144<=mG g k*g k (k+1)/\mG g k*g k (k+1)<=262144:=by
   rcases hsb with e|e<;>rw[e]<;>omega
  have cI:=Mz (bi n n h) (bj n (tG g R (k+1) k)) (bj n (tG g R (k+1) (k+1)));rw[vI hn1 (by omega) hr ((gd _ _ (by omega)).co hn1 hn hr) ((gd _ _ hm).co hn1 hn hr) (by rw[hv];omega),hv]at cI;have g1:=bJ (n:=n) (i:=k) 25 n (by omega);have g2:=bJ (n:=n) (i:=k+1) 25 n hm;have r1:=cT (n:=n) n (tG g R (k+1)) (i:=k) (by omega);have r2:=cT (n:=n) n (tG g R (k+1)) (i:=k+1) hm;have sgk:mG g (k+1)=if mG g k*g k (k+1)<0 then -1 else 1:=rfl
  refine bM (dn (k:=j1 rfl (fJ (bM (cY (y4 [⟨10,_,_,_,cI⟩] (aP @JT.eq_1 (aP e0 (aP g1 (aP g2 (aP r1 (aP @o8 r2)))))) (k:=?_)))))));generalize hvv:mG g k*g k (k+1)=v at*
  by_cases hneg:v<0
  ·rw[if_pos hneg]at sgk;refine dn (k:=j1 rfl (gC g2 (k:=?_)));refine eH (G:=iJ n) (fun q=>⟨(dj (bi n n h)::j4 (.one (.sl 25 0 0 n)::.raw (.int .i64 ((k+1:Nat):Int))::j16 (j16 (j4 (j4 (j4 (jk::rN n::rN q.i::j16 (j16 (j16 (j4 (jk::jk::[]))))))))))),Hm [(25,dv 25 n n (Ke g R (k+1) q.i))]⟩) (fun _=>ir) (fun q=>n-q.i) ⟨0,by omega⟩ ?_ rfl ?_
   ·refine aE ⟨?_,trivial⟩ ?_
    ·show _::_=_::_;rw[Nq]
    simp[wk]
   rintro⟨j,hj⟩;simp only;by_cases hjn:j<n
   ·have r3:=cT (n:=n) n (Ke g R (k+1) j) (i:=k+1) hm;have r4:(bj n (Ke g R (k+1) j (k+1)))[j]?=some (R (k+1) j):=by rw[aQ _ hjn,TD]
    have b1:=(show GdR n h (R (k+1))from inb.nr (k+1) hm).co hn1 hn hr j hjn;have e2:IntKind.i64.wrap (0-R (k+1) j)=0-R (k+1) j:=bu (by omega) (by omega);refine dn (k:=io rfl (bM (cY (dn (k:=yX (aP g2 (aP r3 (aP r4 (aP e2 @fO)))) (k:=rU (k:=?_)))))));refine⟨⟨j+1,by omega⟩,by simp only;omega,aE ⟨?_,trivial⟩ ?_,rfl⟩
    ·show _::_=_::_;rw[cy fun a b _ _=>Np g R (k+1) j a b]
    simp[wk]
   have hjn:j=n:=by omega
   refine dn (k:=j5 rfl (uV e1 (k:=?_)));refine⟨⟨k+1,by omega⟩,by simp only;omega,aE ⟨?_,trivial⟩ ?_,rfl⟩
   ·show _::_=_::_;rw[cy fun a b _ hb=>Qx (n:=j) sgk a b (by omega)]
   simp[wk]
  rw[if_neg hneg]at sgk;refine dn (k:=jt rfl (fJ (uV e1 (k:=?_))));refine⟨⟨k+1,by omega⟩,by simp only;omega,aE ⟨?_,trivial⟩ ?_,rfl⟩
  ·show _::_=_::_;rw[cy fun a b _ _=>Ns sgk a b]
  simp[wk]
 have hkn:k+1=n:=by omega
 refine bM (dn (k:=jt rfl (Bb ?_)));show dS _ _ _ _ _ _ _;have e:dv 25 n n (tG g R (k+1))=dv 25 n n (uv g R):=by
  show _::_=_::_;rw[hkn,cy fun a b ha _=>Qy ha b]
 rw[e];generalize uv g R=Q at*
 clear gd inq inb e hm hk hkn
 -- the Gram matrix
 refine bM (l9 (l8 2 cG (As _ _ _ _) [] [] (by simp[wk]) (by decide) fun K hK=>?_));simp only[kd];apply hK;clear hK K;refine⟨⟨⟨_,rfl,.inl ⟨rfl,rfl⟩,.inr ⟨25,0,0,n,rfl,dG (d:=25) (n:=n) (c:=n) (f:=Q) rfl,mZ (d:=25) (n:=n) (c:=n) (f:=Q) rfl⟩,trivial⟩,⟨74,rfl,fun _=>rfl⟩⟩,by simp[wk],?_⟩;intro K hK;rw[D1 (d:=74) rfl];simp only[kd,aa];apply hK;clear hK K;show dS _ _ _ _ _ _ _;refine dS.weak (aE (tm:=(dj (bi n n h)::j4 (.one (.sl 25 0 0 n)::j4 (.one (.sl 74 0 0 n)::j16 (j16 (j16 (j16 (j16 (j16 (jk::[])))))))))) (l:=[(25,dv 25 n n Q),(74,dv 74 n n (gmB n h Q))]) ⟨rfl,rfl,trivial⟩ (by simp[wk])) ?_;refine dS.weak ((bT 74 (dG (d:=74) (n:=n) (c:=n) (f:=gmB n h Q) rfl)).trans (aE (tm:=(dj (bi n n h)::j4 (.one (.sl 25 0 0 n)::j4 (dj (bi n n (gmB n h Q))::j16 (j16 (j16 (j16 (j16 (j16 (jk::[])))))))))) (l:=[(25,dv 25 n n Q)]) ⟨rfl,trivial⟩ (by
  simp[wk]
  (repeat' apply And.intro)<;>first|rfl|exact(mZ (H:=Hm [(25,dv 25 n n Q),(74,dv 74 n n (gmB n h Q))]) (d:=74) (n:=n) (c:=n) (f:=gmB n h Q) rfl).symm))) ?_
 generalize bi n n (gmB n h Q)=GM at*
 refine gC hml (k:=bM (dn (k:=?_)));refine eH (G:=iJ n) (fun q=>⟨(j4 (jk::.one (.sl 25 0 0 n)::j4 (dj GM::jk::.one (.sl 79 0 0 n)::j16 (j16 (j16 (j16 (j4 (.raw (.int .i64 (n:Int))::rN q.i::j16 (j4 (j4 (jk::[]))))))))))),Hm [(25,dv 25 n n Q),(79,kI 79 n n q.i (trF Q))]⟩) (fun _=>ir) (fun q=>n-q.i) ⟨0,by omega⟩ ?_ rfl ?_
 ·refine aE ⟨rfl,?_,trivial⟩ ?_
  ·show[_]=_;simp[kI,gL,bi]
  simp[wk]
 rintro⟨i,hi⟩;simp only;by_cases hm:i<n
 ·have hmi:=aW i n (trF Q);have hsl:(gL 79 (ae i n)).length=i:=by rw[cf,ay]
  have hrl:((bi i n (trF Q)).map kG).length=i:=by rw[ax,hmi]
  refine dn (k:=io rfl (bM (cY (dn (k:=dn (k:=?_))))));refine eH (G:=iJ n) (fun q=>⟨(j4 (jk::.one (.sl 25 0 0 n)::j4 (dj GM::jk::.one (.sl 79 0 0 n)::rN i::j16 (j16 (j16 (j16 (jk::jk::jk::rN n::rN i::jk::jk::.one (.sl 25 0 0 n)::rN n::rN q.i::j16 (j4 ([]))))))))),Hm [(25,dv 25 n n Q),(79,Vj 79 n n (trF Q) i q.i)]⟩) (fun _=>ir) (fun q=>n-q.i) ⟨0,by omega⟩ ?_ rfl ?_
  ·refine aE ⟨rfl,rfl,trivial⟩ ?_;simp[wk]
  rintro⟨j,hj⟩;simp only;by_cases hm2:j<n
  ·have g1:=bJ (n:=n) (i:=j) 25 n hm2;have hr1:=cT n Q (i:=j) hm2;have hjr:=aQ (Q j) hm;cases j with
   |zero=>
    rw[Vj,Ps (trF Q) hm];refine dn (k:=io rfl (bM (cY (gC g1 (k:=yX (aP (fun x l=>@oP _ _ x l _ hsl) (aP hr1 (aP hjr (aP (fun x y l=>@oQ _ _ x y l _ hsl) hmi)))) (k:=rU (k:=?_)))))));refine⟨⟨1,by omega⟩,by simp only;omega,aE ⟨rfl,?_,trivial⟩ ?_,rfl⟩
    ·rfl
    simp[wk]
   |succ j=>
    have h01:(0==i+1)=false:=by simp
    rw[Vj,Ue];refine dn (k:=io rfl (bM (cY (gC g1 (k:=yX (aP @kG.eq_1 (aP (fun x l=>@oP _ _ x l _ hsl) (aP hr1 (aP hjr (aP (fun x l=>@oP _ _ x l _ hrl) (aP @bf (aP @List.map_append.{0,0} (aP @C3 (aP @List.map_replicate.{0,0} (aP @M9 (aP @vQ (aP (fun x y l=>@oQ _ _ x y l _ hrl) (aP h01 (aP (fun x y l=>@oQ _ _ x y l _ hsl) (aP @List.length_append.{0} hrl))))))))))))))) (k:=rU (k:=?_)))))));refine⟨⟨j+1+1,by omega⟩,by simp only;omega,aE ⟨rfl,?_,trivial⟩ ?_,rfl⟩
    ·show _=Ue 79 n n (trF Q) i (j+1);rw[Ue,kG,o7 (j+1)];rfl
    simp[wk]
  have hjc:j=n:=by omega
  subst hjc;refine dn (k:=j5 rfl ?_);show dS _ _ _ _ _ _ _;rw[S5 _ (by omega) hm];refine rU (k:=?_);refine⟨⟨i+1,by omega⟩,by simp only;omega,aE ⟨rfl,rfl,trivial⟩ ?_,rfl⟩;simp[wk]
 have hin:i=n:=by omega
 subst hin;refine dn (k:=j5 rfl ?_);show dS _ _ _ _ _ _ _;rw[pO];refine dS.weak ((bT 79 (dG (d:=79) (n:=i) (c:=i) (f:=trF Q) rfl)).trans (aE (tm:=(j4 (j4 (jk::jk::dj GM::jk::dj (bi i i (trF Q))::j16 (j16 (j16 (j16 (j16 (j4 (j4 (j4 (jk::jk::jk::[])))))))))))) (l:=[]) trivial (by
  simp[wk]
  (repeat' apply And.intro)<;>first|rfl|exact(mZ (H:=Hm [(25,dv 25 i i Q),(79,dv 79 i i (trF Q))]) (d:=79) (n:=i) (c:=i) (f:=trF Q) rfl).symm))) ?_
 refine dn (k:=?_)
 (refine fg ⟨.inr rfl,rfl,cd rfl ?_ rfl⟩;simp(disch:=omega) only[kd,Tryz.results6,Tu])
theorem EE (n:Nat) (h R:FF) (hn1:1<=n) (hn:n<=4) (hr:RedR h n) (hR:RchB n h idF R):
  CallG Tryz.prog 0 162 6 [dj (bi n n h)] ir ⟨[],Tu (bi n n (gmB n h (uv (gmB n h R) R))) (bi n n (trF (uv (gmB n h R) R))) 0⟩:=
 vU n h R hn1 hn hr (CF hR (InB2.one hn1 (by omega) hr)).1 (EG n h R hn1 hn hr hR)
theorem VU {n:Nat} {X:Nat->Int} (h: ∀j,j<n->X j=0):lc fI (bj n X)=ae n [.p (.raw (.int .i64 0))]:=by
 have e:bj n X=ae n 0:=by
  apply List.ext_getElem?;intro j;by_cases hj:j<n
  ·rw[aQ _ hj,List.getElem?_replicate,if_pos hj,h j hj]
  rw[ar (by rw[bf];omega),ar (by simp;omega)]
 rw[e,lc,List.map_replicate];rfl
section
section
variable (n:Nat) (h B:FF) (hn1:1<=n) (hn:n<=4) (hr:RedR h n) (hB: ∀a,a<n->GdR n h (B a)) (hs: ∀k,k+1<n->nrm n h (B k)<=nrm n h (B (k+1)))
include hn1 hn hr hB hs
theorem IV:CallC Tryz.prog 118 [dj (bi n n B),.raw (.int .i64 0),.raw (.int .i64 (n:Int)),SJ n h] ⟨[],.tup []⟩:=by
 have hml:=aW n n B;refine aS Tryz.func118 rfl Tryz.ntmps118 (aT (k:=?_));refine aO (G:=Ux n) (fun g=>⟨(dj (bi n n B)::.raw (.int .i64 0)::rN n::.fn 54 [.p (.ptr (f9 (bi n n h)))]::j4 (.raw (.int .i64 (g.i:Int))::j16 (j16 (j4 (j4 (j4 ([]))))))),Hm []⟩) (fun g=>n-g.i) ⟨1,by omega,hn1⟩ ?_ ?_
 ·refine aE trivial ?_;simp[wk]
 rintro⟨i,hi1,hi⟩;simp only;by_cases hm:i<n
 ·obtain⟨j,rfl⟩: ∃j,i=j+1:=⟨i-1,by omega⟩;have hC:=K3 hn1 hn hr (hB (j+1) hm) (hB j (by omega));have hneg: ¬nrm n h (B (j+1))-nrm n h (B j)<0:=by have:=hs j hm;omega
  have e0:IntKind.i64.wrap (((j+1:Nat):Int)-1)=(j:Int):=by rw[show((j+1:Nat):Int)-1=(j:Int) by omega];exact bu (by omega) (by omega)
  have gt:(0:Int)<((j+1:Nat):Int):=by omega
  have m1:=bx n B hm;have m2:=bx n B (show j<n by omega);refine aF (aK (k:=aR rfl (aH (aF (aG (bC (k:=?_)))))));refine aO (G:=Unit) (fun _=>⟨(dj (bi n n B)::.raw (.int .i64 0)::rN n::.fn 54 [.p (.ptr (f9 (bi n n h)))]::j4 (.raw (.int .i64 ((j+1:Nat):Int))::.raw (.int .i64 ((j+1:Nat):Int))::j16 (j16 (j4 (j4 (jk::jk::jk::[])))))),Hm []⟩) (fun _=>0) () ?_ ?_
  ·refine aE trivial ?_;simp[wk]
  intro _;refine aF (d6 [⟨14,_,_,_,hC⟩] (aP gt (aP m1 (aP e0 (aP m2 hneg)))) (k:=aJ rfl (bz (bW (k:=?_)))));refine⟨⟨j+1+1,by omega,by omega⟩,by simp only;omega,aE trivial ?_⟩;simp[wk]
 have hin:i=n:=by omega
 subst hin;refine aF (aK (k:=aJ rfl (bz ?_)));exact⟨.inl rfl,cd rfl rfl rfl⟩
theorem NF:CallC Tryz.prog 90 [dj (bi n n B),.raw (.int .i64 (n:Int)),SJ n h] ⟨[],.tup []⟩:=by
 have hI:=IV n h B hn1 hn hr hB hs;refine aS Tryz.func90 rfl Tryz.ntmps90 (aT (k:=bC (k:=?_)));refine aF (aO (G:=Unit) (fun _=>⟨(dj (bi n n B)::rN n::.fn 54 [.p (.ptr (f9 (bi n n h)))]::jk::jk::jk::.raw (.int .i64 20)::.raw (.int .i64 0)::.raw (.int .i64 20)::j16 (j16 (j16 (j4 (jk::jk::[]))))),Hm []⟩) (fun _=>0) () ?_ ?_)
 ·refine aE trivial ?_;simp[wk]
 intro _;refine aF (aK (k:=aJ rfl (bz (cb [⟨4,_,_,_,hI⟩] (k:=?_)))));refine aO (G:=Unit) (fun _=>⟨(jk::rN n::j4 (.raw (.int .i64 20)::j16 (j16 (j16 (j4 (j4 ([]))))))),Hm []⟩) (fun _=>0) () ?_ ?_
 ·refine aE trivial ?_;simp[wk]
 intro _;refine aF (aK (k:=aJ rfl (bz ?_)));exact⟨.inl rfl,cd rfl rfl rfl⟩
theorem AD:CallC Tryz.prog 53 [dj (bi n n B),SJ n h] ⟨[],.tup []⟩:=by
 have hI:=NF n h B hn1 hn hr hB hs;have hml:=aW n n B;refine aS Tryz.func53 rfl Tryz.ntmps53 (OP [⟨4,_,_,_,hI⟩] hml (k:=?_));exact⟨.inl rfl,cd rfl rfl rfl⟩
end
theorem JH:jK ⟨[],.tup []⟩:=⟨rfl,fun o ho=>by simp at ho⟩
theorem K7 {ops:Array Oper} {m d:Nat} {s:AS} (hd:cwD ops m=some d):F8 ops m ⟨[],.tup []⟩ s=s.put (some d) (.tup []):=by
 unfold F8;rw[hd];rfl
theorem EF (n:Nat) (h:FF) (hn1:1<=n) (hn:n<=4) (hr:RedR h n) (hs: ∀k,k+1<n->nrm n h (idF k)<=nrm n h (idF (k+1))) (hv:tM n (gmB n h idF)=none):
  CallG Tryz.prog 0 162 19 [dj (bi n n h)] ir ⟨dv 0 n n idF,.one (.sl 0 0 0 n)⟩:=by
 have hS:InB2 n h 262144 idF:=InB2.one hn1 (by omega) hr;have cM:=AD n h idF hn1 hn hr hS.nr hs;have cV:=nL n (gmB n h idF) hn1 hn fun i j hi hj=>by
  have:=nC hr.pd hS hi hj 262144 (by decide);omega
 have eT:qg n (gmB n h idF)= .tup [(false,[.p (.raw (.int .i64 0))]),(true,a4 fun _=>0),(false,[.p (.raw (.bool false))])]:=by unfold qg;rw[hv]
 rw[eT]at cV;clear hv eT hs;have hml:=aW n n h;refine gf Tryz.func19 rfl (by kernel_rfl) ?_;rw[Tryz.ntmps19];refine pj (k:=?_);refine dS.weak ((nf 1 1 (cs:=f9 (bi n n h)) rfl rfl).trans (aE (tm:=(jk::.one (.p (.ptr (f9 (bi n n h))))::j16 (j16 (j16 (j16 (j16 (j4 (jk::jk::[])))))))) (l:=[]) trivial (by simp[wk,gX,fX]))) ?_;refine gC hml (k:=bM (dn (k:=?_)));refine eH (G:=iJ n) (fun g=>⟨(jk::.one (.p (.ptr (f9 (bi n n h))))::jk::.one (.sl 17 0 0 n)::j4 (j4 (j4 (jk::jk::jk::rN n::rN g.i::j16 (j16 (j16 (j16 (jk::jk::jk::[])))))))),Hm [(17,kI 17 n n g.i (rJ g.i))]⟩) (fun _=>ir) (fun g=>n-g.i) ⟨0,by omega⟩ ?_ rfl ?_
 ·refine aE ⟨?_,trivial⟩ ?_
  ·show[_]=_;simp[kI,gL,bi]
  simp[wk]
 rintro⟨i,hi⟩;simp only;by_cases hm:i<n
 ·have k1:=sk (i:=i) (n:=n) 17 n hm;have k2:=ki (i:=i) (n:=n) 17 n hi;have k3:=aW i n (rJ i);have k4:=oJ (i:=i) (n:=n) (c:=n) 17 (rJ i) hm (fun j hj=>by unfold rJ;rw[if_neg (by omega)]);have k5:=sj (i:=i+1) (k:=i) (n:=n) 17 n (by omega);have k6:=ki (i:=i+1) (n:=n) 17 n (by omega);have k7:=cT (n:=i+1) n (rJ i) (i:=i) (by omega);have k8:=aQ (rJ i i) hm;refine dn (k:=io rfl (bM (cY (dn (k:=gC (aP hml (aP k1 (aP @ay.{0} (aP @List.all_replicate.{0} (aP k3 k4))))) (k:=?_))))));refine dS.weak (aE (tm:=(jk::.one (.p (.ptr (f9 (bi n n h))))::jk::.one (.sl 17 0 0 n)::rN i::j4 (j4 (j4 (jk::jk::rN n::rN i::j16 (j16 (j16 (j16 (jk::jk::jk::[]))))))))) (l:=[(17,kI 17 n n (i+1) (rJ i))]) ⟨?_,trivial⟩ (by simp[wk])) ?_
  ·first|exact k4|rfl
  refine uV (aP k5 (aP k7 (aP k8 @fO))) (k:=rU (k:=?_));refine⟨⟨i+1,by omega⟩,by simp only;omega,aE ⟨?_,trivial⟩ ?_,rfl⟩
  ·show _::_=_::_;rw[cy fun x y _ _=>wm i x y]
  simp[wk]
 have hin:i=n:=by omega
 subst hin;refine dn (k:=j5 rfl ?_);show dS _ _ _ _ _ _ _;have e:kI 17 i i i (rJ i)=dv 17 i i idF:=by
  rw[pO];show _::_=_::_;rw[cy fun x y hx _=>Ak x y hx]
 rw[e];obtain⟨n,hni⟩: ∃n,n=i:=⟨_,rfl⟩;subst hni;clear e hm hi;refine eH (G:=Unit) (fun _=>⟨(jk::.one (.p (.ptr (f9 (bi n n h))))::jk::.one (.sl 17 0 0 n)::j16 (j16 (j16 (j16 (j16 (j4 ([]))))))),Hm [(17,dv 17 n n idF)]⟩) (fun _=>ir) (fun _=>0) () ?_ rfl ?_
 ·refine aE ⟨rfl,trivial⟩ ?_;simp[wk]
 intro _;refine cY ?_;have c1:=Es hn1 hn hr hS;obtain⟨S,hSe⟩: ∃S,S=idF:=⟨_,rfl⟩;rw[<- hSe]at c1 cV cM⊢;refine bM (l9 (l8 2 cM JH [] [] (by simp[wk]) (by decide) fun K hK=>?_));simp only[kd,ke];apply hK;clear hK K;refine⟨⟨⟨_,rfl,.inr ⟨17,0,0,n,rfl,dG (d:=17) (n:=n) (c:=n) (f:=S) rfl,mZ (d:=17) (n:=n) (c:=n) (f:=S) rfl⟩,.inl ⟨rfl,rfl⟩,trivial⟩,⟨38,rfl,fun h=>(h rfl).elim⟩⟩,by simp[wk],?_⟩;intro K hK;rw[K7 (d:=38) rfl];simp only[kd,aa];apply hK;clear hK K;show dS _ _ _ _ _ _ _;refine dS.weak (aE (tm:=(jk::.one (.p (.ptr (f9 (bi n n h))))::jk::.one (.sl 17 0 0 n)::j16 (j16 (j16 (j16 (j16 (j4 ([])))))))) (l:=[(17,dv 17 n n S)]) ⟨rfl,trivial⟩ (by simp[wk])) ?_
 -- the Gram matrix
 refine bM (l9 (l8 2 c1 (As _ _ _ _) [] [] (by simp[wk]) (by decide) fun K hK=>?_));simp only[kd];apply hK;clear hK K;refine⟨⟨⟨_,rfl,.inl ⟨rfl,rfl⟩,.inr ⟨17,0,0,n,rfl,dG (d:=17) (n:=n) (c:=n) (f:=S) rfl,mZ (d:=17) (n:=n) (c:=n) (f:=S) rfl⟩,trivial⟩,⟨42,rfl,fun _=>rfl⟩⟩,by simp[wk],?_⟩;intro K hK;rw[D1 (d:=42) rfl];simp only[kd,aa];apply hK;clear hK K;show dS _ _ _ _ _ _ _;refine dS.weak (aE (tm:=(jk::.one (.p (.ptr (f9 (bi n n h))))::jk::.one (.sl 17 0 0 n)::jk::.one (.sl 42 0 0 n)::j16 (j16 (j16 (j16 (j16 (jk::jk::[]))))))) (l:=[(17,dv 17 n n S),(42,dv 42 n n (gmB n h S))]) ⟨rfl,rfl,trivial⟩ (by simp[wk])) ?_;refine dS.weak ((bT 42 (dG (d:=42) (n:=n) (c:=n) (f:=gmB n h S) rfl)).trans (aE (tm:=(jk::.one (.p (.ptr (f9 (bi n n h))))::jk::.one (.sl 17 0 0 n)::jk::dj (bi n n (gmB n h S))::j16 (j16 (j16 (j16 (j16 (jk::jk::[]))))))) (l:=[(17,dv 17 n n S)]) ⟨rfl,trivial⟩ (by
  simp[wk]
  (repeat' apply And.intro)<;>first|rfl|exact(mZ (H:=Hm [(17,dv 17 n n S),(42,dv 42 n n (gmB n h S))]) (d:=42) (n:=n) (c:=n) (f:=gmB n h S) rfl).symm))) ?_
 refine dy [⟨1,_,_,_,cV,rfl⟩] [] [] fun _ K=>?_;simp(disch:=omega) only[kd,dj,fv.a,aa,j6,pB,Nat.reduceEqDiff,dZ,fY];apply K
 refine bM (dn (k:=j1 rfl (dn (k:=?_))));refine fg ⟨.inr rfl,rfl,_,ci.refl _,?_⟩;refine⟨.one (.sl 17 0 0 n),17,?_,rfl,?_,rfl⟩
 ·simp(disch:=omega) only[kd,Tryz.results19]
 exact(cQ 17 0 _ _ _).symm
end
abbrev VP (d:List Int) (e:Int):TV:= .tup [(false,[.p (.sl (ls fI d))]),(false,[.p (.raw (.int .i64 e))])]
def Pf (g:FF) (i:Nat):Nat->Int:=fun j=>if j<i then g j j else 0
theorem Lf (g:FF) (i:Nat):(fun b=>if b=i then g i i else Pf g i b)=Pf g (i+1):=by
 funext b;unfold Pf;by_cases h:b=i
 ·subst h;rw[if_pos rfl,if_pos (by omega)]
 by_cases h2:b<i
 ·rw[if_neg h,if_pos h2,if_pos (by omega)]
 rw[if_neg h,if_neg h2,if_neg (by omega)]
theorem Pg (n:Nat) (g:FF):bj n (Pf g n)=bj n (fun i=>g i i):=gn fun j hj=>if_pos hj
theorem L7 (M T:List (List Int)) (n:Nat) (g:FF) (hn:n<=4) (cR:CallG Tryz.prog 0 162 6 [dj M] ir ⟨[],Tu (bi n n g) T 0⟩):
  CallG Tryz.prog 0 162 13 [dj M] ir ⟨[],VP (bj n (fun i=>g i i)) 0⟩:=by
 have hml:=aW n n g;refine gf Tryz.func13 rfl (by kernel_rfl) ?_;rw[Tryz.ntmps13];refine pj (k:=?_);refine dy [⟨1,_,_,_,cR,rfl⟩] [] [] fun _ K=>?_;simp(disch:=omega) only[kd,dj,Tu,fv.a,aa];apply K
 refine bM (dn (k:=jt rfl (fJ (gC hml (k:=?_)))));refine dS.weak (aE (tm:=(jk::jk::jk::.raw (.int .i64 0)::dj (bi n n g)::jk::jk::.one (.sl 21 0 0 n)::j16 (j4 (j4 (j4 (jk::jk::[])))))) (l:=[(21,[⟨2,1,lc fI (bj n (Pf g 0))⟩])]) ⟨?_,trivial⟩ (by simp[wk])) ?_
 ·rw[VU (X:=Pf g 0) fun j _=>if_neg (by omega)];rfl
 refine bM (gC hml (k:=?_));refine eH (G:=iJ n) (fun q=>⟨(jk::jk::jk::.raw (.int .i64 0)::jk::jk::jk::.one (.sl 21 0 0 n)::j4 (j4 (j4 (jk::jk::dj (bi n n g)::rN n::rN q.i::j4 (j4 (j4 (jk::[]))))))),Hm [(21,[⟨2,1,lc fI (bj n (Pf g q.i))⟩])]⟩) (fun _=>ir) (fun q=>n-q.i) ⟨0,by omega⟩ ?_ rfl ?_
 ·refine aE ⟨rfl,trivial⟩ ?_;simp[wk]
 rintro⟨i,hi⟩;simp only;by_cases hm:i<n
 ·have hr:=bx n g hm;have hii:=aQ (g i) hm;have g2:=aQ (m:=n) (Pf g i) (j:=i) hm;have s1:=GG n i (Pf g i) (g i i);rw[Lf]at s1;refine dn (k:=io rfl (bM (cY (gC hr (k:=uV (aP hii (aP g2 s1)) (k:=rU (k:=?_)))))));refine⟨⟨i+1,by omega⟩,by simp only;omega,aE ⟨rfl,trivial⟩ ?_,rfl⟩;simp[wk]
 have hin:i=n:=by omega
 subst hin;refine dn (k:=j5 rfl ?_);show dS _ _ _ _ _ _ _;rw[Pg];refine dn (k:=?_);refine fg ⟨.inr rfl,rfl,fo 21 (bQ rfl) ?_ rfl⟩;simp(disch:=omega) only[kd,Tryz.results13,o8,VP]
/-! awake -/
abbrev FU:List (List Int):=[[2,-1],[-1,3]]
abbrev Wa:List (List Int):=[[2,-1],[-1,2]]
abbrev VI:List (List Int):=[[2,1],[1,3]]
theorem Ss:b8 FU=true:=by decide+kernel
theorem FV:FU=bi 2 2 (ent FU):=rfl
theorem ze:RedR (ent FU) 2:=by
 have h:=(fk _).1 Ss;rw[FV]at h;have:=((qm (by omega)).1 h).2.2;exact this
theorem UI: ¬Us Wa:=fun h=>by
 have:=(h.2.1 0 (by decide)).2
 revert this;decide
theorem VJ:bi 2 2 (gmB 2 (ent FU) (uv (gmB 2 (ent FU) idF) idF))=VI:=by decide+kernel
theorem OS (k:Nat) (hk:k+1<2):nrm 2 (ent FU) (idF k)<=nrm 2 (ent FU) (idF (k+1)):=by
 obtain rfl:k=0:=by omega
 decide
theorem Su:tM 2 (gmB 2 (ent FU) idF)=none:=by
 have h: ∀i,i<2-> ¬VioP 2 (gmB 2 (ent FU) idF) i:=fun i hi=>by
  rintro⟨c,h1,h2⟩
  match i,hi with
  |0,_=>
   obtain rfl:c=0:=by simpa using h1
   revert h2;decide
  |1,_=>
   have hc:c=0\/c=1\/c=2:=by omega
   rcases hc with rfl|rfl|rfl<;>revert h2<;>decide
 show s9 2 _ 2 0=none;rw[s9,if_neg (h 0 (by omega)),s9,if_neg (h 1 (by omega))];rfl
theorem OT:CallG Tryz.prog 0 162 12 [] ir ⟨[],.raw (.bool true)⟩:=by
 have cR:=vU 2 (ent FU) idF (by omega) (by omega) ze (InB2.one (by omega) (by omega) ze) (EF 2 (ent FU) (by omega) (by omega) ze OS Su);have hTl:=aW 2 2 (trF (uv (gmB 2 (ent FU) idF) idF));rw[VJ,<- FV]at cR;generalize bi 2 2 (trF (uv (gmB 2 (ent FU) idF) idF))=T at*
 have hTi:(T.length:Int)=2:=by omega
 have cS:=TA VI VI;rw[decide_eq_true rfl]at cS;have cI:=zU Wa false (by simp[UI]);simp only[dj,ls,fR,fI,List.map_cons,List.map_nil]at cR cS cI;refine gf Tryz.func12 rfl (by kernel_rfl) ?_;rw[Tryz.ntmps12];refine pj (k:=?_);refine dy [⟨3,_,_,_,cR,rfl⟩] [] [] fun _ K=>?_;simp(disch:=omega) only[kd,Tu,fv.a,aa,Nat.reduceMul,Nat.reduceLeDiff];apply K
 refine dy [⟨18,_,_,_,cI,rfl⟩] [⟨12,_,_,_,cS⟩] [] fun _ K=>?_;simp(disch:=omega) only[kd,fv.a,aa,ls,fR,hTi,Nat.reduceMul,Nat.reduceLeDiff,Nat.reduceBEq];apply K
 (refine fg ⟨.inr rfl,rfl,cd rfl ?_ rfl⟩;simp(disch:=omega) only[kd,Tryz.results12])
/-! Congruence of the conditions. -/
theorem MinkP.congr {f g:FF} {n:Nat} (h: ∀i j,i<n->j<n->f i j=g i j) (hm:MinkP f n):MinkP g n:=by
 refine⟨fun i hi=>?_,fun i hi hv=>hm.2 i hi ?_⟩
 ·rw[<- h i i (by omega) (by omega),<- h (i+1) (i+1) hi hi,<- h i (i+1) (by omega) hi];exact hm.1 i hi
 obtain⟨c,h1,h2⟩:=hv;refine⟨c,h1,?_⟩;rw[h i i hi hi];have e:nrm n f (mY i c)=nrm n g (mY i c):=dY h (fun _ _=>rfl) (fun _ _=>rfl);rw[e];exact h2
theorem PD.congr {f g:FF} {n:Nat} (h: ∀i j,i<n->j<n->f i j=g i j) (hp:PD f n):PD g n:=by
 refine⟨fun i hi j hj=>?_,fun k hk=>?_⟩
 ·rw[<- h i j hi hj,<- h j i hj hi];exact hp.1 i hi j hj
 rw[<- iu (f:=f) fun i j hi hj=>h i j (by omega) (by omega)];exact hp.2 k hk
section
structure Kp (n:Nat) (h:FF) (Q:FF):Prop where
 n1:1<=n
 n4:n<=4
 red:RedR h n
 inb:InB2 n h 262144 Q
 mink:MinkP (gmB n h Q) n
theorem CH {n:Nat} {h:FF} (hn1:1<=n) (hn:n<=4) (hr:RedR h n): ∃R,Kp n h (uv (gmB n h R) R)/\RchB n h idF R/\
  CallG Tryz.prog 0 162 6 [dj (bi n n h)] ir ⟨[],Tu (bi n n (gmB n h (uv (gmB n h R) R))) (bi n n (trF (uv (gmB n h R) R))) 0⟩:=by
 obtain⟨R,h1,h2,h3,h4⟩:=Ci hn1 hn hr;exact⟨R,⟨hn1,hn,hr,h3,h4⟩,h1,EE n h R hn1 hn hr h1⟩
section
variable {n:Nat} {h Q:FF}
theorem Kp.gb (k:Kp n h Q) {i j:Nat} (hi:i<n) (hj:j<n): -262144<=gmB n h Q i j/\gmB n h Q i j<=262144:=nC k.red.pd k.inb hi hj 262144 (by decide)
theorem Kp.ent (k:Kp n h Q) {i j:Nat} (hi:i<n) (hj:j<n): -1099511627776<=Q i j/\Q i j<=1099511627776:=
 (show GdR n h (Q i)from k.inb.nr i hi).co k.n1 k.n4 k.red j hj
end
end
section
variable {n:Nat}
theorem lZ.mul {t u:FF} (ht:lZ n t) (hu:lZ n u):lZ n (im n t u):=fun v=>by
 obtain⟨y,hy⟩:=ht v;obtain⟨z,hz⟩:=hu y;refine⟨z,fun j hj=>?_⟩;rw[<- hy j hj];unfold mV;rw[aI n (F:=fun a=>y a*t j a) (G:=fun p=>smF (fun a=>z a*(t j p*u p a)) n) (fun p hp=>by
  rw[<- hz p hp];unfold mV;rw[<- jr];exact aI n fun a _=>by grind),eQ]
 exact aI n fun a _=>by rw[jj,bH]
theorem SM {f f' t:FF} (h: ∀a b,a<n->b<n->f a b=f' a b) (a b:Nat):cngF n f t a b=cngF n f' t a b:=by
 rw[fC,fC];exact dY h (fun _ _=>rfl) fun _ _=>rfl
def HJ (n:Nat) (g h:FF):Prop:= ∃T,lZ n T/\ ∀a b,a<n->b<n->cngF n g T a b=h a b
theorem HJ.trans {g h p:FF} (h1:HJ n g h) (h2:HJ n h p):HJ n g p:=by
 obtain⟨T,s1,e1⟩:=h1;obtain⟨S,s2,e2⟩:=h2;refine⟨_,s1.mul s2,fun a b ha hb=>?_⟩;rw[<- O6,SM e1];exact e2 a b ha hb
theorem TU:lZ n idF:=lZ.one.congr fun _ _ _ _=>rfl
theorem SO (h:FF) {a b:Nat} (ha:a<n) (hb:b<n):cngF n h idF a b=h a b:=by
 have e: ∀x y,BF n h x y=smF (fun i=>x i*smF (fun j=>h i j*y j) n) n:=fun _ _=>rfl
 rw[fC,e,aI n (G:=fun i=>h i b*idF i a) (fun i _=>by rw[AH hb];exact Int.mul_comm _ _)];exact AH (y:=fun i=>h i b) ha
theorem HJ.refl (g:FF):HJ n g g:=⟨idF,TU,fun _ _ ha hb=>SO g ha hb⟩
/-! Unimodular of quadformmake. -/
theorem Hf {F:Nat->Int} {B:Nat}: ∀k,(∀p,p<k->(F p).natAbs<=B)->(smF F k).natAbs<=k*B
 |0,_=>by simp[smF]
 |k+1,h=>by
  have h1:=Hf k fun p hp=>h p (by omega)
  have h2:=h k (by omega);rw[smF,Nat.add_mul,Nat.one_mul];omega
end
section
variable {n:Nat}
theorem pa {F:Nat->Int} {k:Nat} (h: ∀i,i<k->F i=0): ∀m,smF F (k+m)=smF (fun a=>F (k+a)) m
 |0=>by
  rw[Nat.add_zero,aI k (G:=fun _=>0) h,cX];rfl
 |m+1=>by rw[<- Nat.add_assoc,smF,smF,pa h m]
theorem oB {m:Nat} (g:Nat->Int) (y:List Int): ∀l,l<=m->dE (bj m g) y l=smF (fun b=>g b*y.getD b 0) l
 |0,_=>rfl
 |l+1,h=>by
  show dE (bj m g) y l+(bj m g).getD l 0*y.getD l 0=_;rw[oB g y l (by omega),List.getD_eq_getElem?_getD,aQ _ (by omega)];rfl
theorem Fl {y:List Int} {k a:Nat} (hk:y.length+(k+1)=n):cw n y (k+1+a)=y.getD a 0:=by
 unfold cw;rw[if_neg (by omega),show k+1+a+y.length-n=a by omega]
theorem Dc {y:List Int} {k i:Nat} (hk:y.length+(k+1)=n) (hi:i<k+1):cw n (0::y) i=0:=by
 by_cases e:i=k
 ·rw[e];exact kA hk
 unfold cw;rw[List.length_cons,if_pos (by omega)]
def jN (f:FF) (k:Nat):Nat->Nat->Int:=fun a b=>bk f k (k+a) (k+b)
theorem TH (f:FF) {y:List Int} {k:Nat} (hk:y.length+(k+1)=n):dE (bj y.length fun j=>jN f k 0 (j+1)) y y.length=pp f n k (cw n y):=by
 rw[oB _ _ _ (ac _),pp,show n=k+1+y.length by omega,pa fun i hi=>if_pos (by omega)];refine aI _ fun a ha=>?_
 rw[if_neg (by omega),Fl (by omega)];show bk f k (k+0) (k+(a+1))*_=_;rw[Nat.add_zero,show k+(a+1)=k+1+a by omega]
def G4 (g:FF) (y:List Int):Nat->Int
 |0=>0
 |i+1=>G4 g y i+y.getD i 0*dE (bj y.length fun j=>g (i+1) (j+1)) y y.length
theorem MP (g:FF) (y:List Int): ∀i,G4 g y i=smF (fun a=>y.getD a 0*dE (bj y.length fun j=>g (a+1) (j+1)) y y.length) i
 |0=>rfl
 |i+1=>by rw[G4,smF,MP g y i]
theorem Tr (f:FF) {y:List Int} {k:Nat} (hk:y.length+(k+1)=n):G4 (jN f k) y y.length=BF n (bk f k) (cw n (0::y)) (cw n (0::y)):=by
 have hx: ∀a,cw n (0::y) (k+1+a)=y.getD a 0:=fun a=>by rw[ky hk (by omega),Fl hk]
 have hin: ∀i,smF (fun j=>bk f k i j*cw n (0::y) j) n=smF (fun b=>bk f k i (k+1+b)*y.getD b 0) y.length:=fun i=>by
  rw[show n=k+1+y.length by omega,pa fun j hj=>by rw[Dc (by omega) hj,Int.mul_zero]];refine aI _ fun b _=>?_
  rw[show k+1+y.length=n by omega,hx]
 rw[MP];unfold BF;rw[aI n (G:=fun i=>cw n (0::y) i*smF (fun b=>bk f k i (k+1+b)*y.getD b 0) y.length) fun i _=>by rw[hin]];rw[show n=k+1+y.length by omega,pa fun j hj=>by rw[Dc (by omega) hj,Int.zero_mul]];refine aI _ fun a _=>?_
 rw[show k+1+y.length=n by omega,hx,oB _ _ _ (ac _)]
 congr 1
 refine aI _ fun b _=>?_
 show bk f k (k+(a+1)) (k+(b+1))*_=_;rw[show k+(a+1)=k+1+a by omega,show k+(b+1)=k+1+b by omega]
theorem Ph {f:FF} (hr:PD f n) {y:List Int} {k:Nat} (hk:y.length+(k+1)=n) (B:Int):
  pp f n k (cw n y)*pp f n k (cw n y)-dk f (k+1)*(G4 (jN f k) y y.length-B*dk f k)=pb f n B k (cw n y):=by
 have ht: ∀i,k<i->i<n->cw n (0::y) i=cw n y i:=fun i h1 _=>ky hk h1
 rw[Tr f hk,<- AF (B:=B) hr (show k<n by omega) ht,<- Az ht];have key:=sY hr.1 hr.2 (cw n (0::y)) (show k<n by omega);rw[yz hr (show k<n by omega),kA hk,Int.mul_zero,Int.zero_add]at key;unfold pb;generalize BF n (bk f k) (cw n (0::y)) (cw n (0::y))=Q at*
 generalize BF n (bk f (k+1)) (cw n (0::y)) (cw n (0::y))=R at*
 generalize pp f n k (cw n (0::y))=l at*
 generalize dk f (k+1)=D at*
 generalize dk f k=d at*
 grind
def Ox:Nat->Nat
 |0=>0
 |m+1=>4*Ox m+67108864
theorem SU {D M:Nat} {u:Int} (hD:0<D) (h:u.natAbs<=D*M):(u/(D:Int)).natAbs<=M:=by
 have e:((D*M:Nat):Int)=(M:Int)*(D:Int):=by rw[Int.natCast_mul,Int.mul_comm]
 have h1:u/(D:Int)<(M:Int)+1:=Int.ediv_lt_of_lt_mul (by omega) (by rw[Int.add_mul,Int.one_mul];omega);have h2: -(M:Int)<=u/(D:Int):=Int.le_ediv_of_mul_le (by omega) (by rw[Int.neg_mul];omega);omega
theorem PJ {f:FF} (hr:RedR f n) (hn:n<=4) {B:Int} (h0:0<=B) (hB:B<=262144) {k:Nat} (hk:k<n) {x:Nat->Int} (hP:lh f n B (k+1) x) {T:Nat} (hx: ∀j,k<j->j<n->(x j).natAbs<=T):
  (kE f n B k x).natAbs<=4*T+67108864/\(kP f n B k x).natAbs<=4*T+67108864:=by
 have hp:=hr.pd;have hd:=hr.2.1 k hk;have hd2:=kh (by omega) (by omega) hr k hk;have hc:0<dk f k/\dk f k<65536:=by
  cases k with
  |zero=>rw[da];omega
  |succ k=>exact⟨hr.2.1 k (by omega),kh (by omega) (by omega) hr k (by omega)⟩
 have hq:=(pe hp.1 hp.2 x (n-(k+1)) (k+1) (by omega)).1;have hs0:=sX hp hk hP;have hs1:pb f n B k x<=1125899906842624:=by
  unfold pb;generalize BF n (bk f (k+1)) x x=q at*
  generalize dk f (k+1)=d at*
  generalize dk f k=c at*
  have h1:B*d<=262144*65536:=Int.mul_le_mul hB (by omega) (by omega) (by omega);have h2:c*(B*d-q)<=c*(262144*65536):=Int.mul_le_mul_of_nonneg_left (by omega) (by omega);have h3:c*(262144*65536)<=65536*(262144*65536):=Int.mul_le_mul_of_nonneg_right (by omega) (by omega);omega
 obtain⟨hr0,hr1,_⟩:=oI hs0;have hr2:jI (pb f n B k x)<=33554432:=Int.le_of_not_gt fun h=>by
  have:=Int.mul_le_mul (show 33554433<=jI (pb f n B k x) by omega) (show 33554433<=jI (pb f n B k x) by omega) (by omega) hr0;omega
 have hl:(pp f n k x).natAbs<=n*((dk f (k+1)).toNat*T):=by
  refine Hf n fun j hj=>?_
  by_cases hjk:j<=k
  ·rw[if_pos hjk];simp
  rw[if_neg hjk,Int.natAbs_mul];have hsz:=(hr.2.2.2 k (by omega)).1 j hj (by omega);rw[ju hp.1 k (by omega) (fun t ht=>by have:=hp.2 t (by omega);omega) k j hk hj];exact Nat.mul_le_mul (by omega) (hx j (by omega) hj)
 have hl2:(pp f n k x).natAbs<=(dk f (k+1)).toNat*(4*T):=by
  refine Nat.le_trans hl ?_;have:n*((dk f (k+1)).toNat*T)<=4*((dk f (k+1)).toNat*T):=Nat.mul_le_mul_right _ hn;have e:4*((dk f (k+1)).toNat*T)=(dk f (k+1)).toNat*(4*T):=by rw[Nat.mul_left_comm]
  omega
 unfold kE kP;generalize jI (pb f n B k x)=r at*
 generalize pp f n k x=l at*
 clear hs0 hs1 hr1 hl hP hq;have e:dk f (k+1)=(((dk f (k+1)).toNat:Nat):Int):=by omega
 rw[e];generalize(dk f (k+1)).toNat=D at*
 have hD:0<D:=by omega
 have hb: ∀u:Int,(u.natAbs<=33554432+D*(4*T))->(u/(D:Int)).natAbs<=4*T+33554432:=fun u hu=>SU hD (by
  have e:=Nat.mul_add D (4*T) 33554432;have:1*33554432<=D*33554432:=Nat.mul_le_mul_right _ hD;omega)
 have g1:=hb (r+l) (by omega);have g2:=hb (r-l) (by omega);omega
theorem lX: ∀m,m<=4->Ox m<=5704253440
 |0,_=>by decide
 |1,_=>by decide
 |2,_=>by decide
 |3,_=>by decide
 |4,_=>by decide
 |m+5,h=>by omega
def yR (y:List Int):Prop:= ∀i,i<y.length->(y.getD i 0).natAbs<=Ox (y.length-i)
theorem yR.nil:yR []:=fun i h=>by simp at h
theorem yR.cons {c:Int} {y:List Int} (h:yR y) (hc:c.natAbs<=Ox (y.length+1)):yR (c::y):=fun i hi=>by
 cases i with
 |zero=>exact hc
 |succ i=>
  rw[List.getD_cons_succ,List.length_cons,Nat.add_sub_add_right];exact h i (by simpa using hi)
theorem Hq: ∀{a b:Nat},a<=b->Ox a<=Ox b:=by
 intro a b h
 induction b with
 |zero=>rw[show a=0 by omega];exact ac _
 |succ b ih=>
  by_cases e:a=b+1
  ·rw[e];exact ac _
  have:=ih (by omega);show _<=4*Ox b+67108864;omega
theorem yR.bd {y:List Int} (h:yR y) (z:Int) (hz:z∈y):z.natAbs<=Ox y.length:=by
 obtain⟨i,hi,rfl⟩:=List.mem_iff_getElem.1 hz;have:=h i hi;rw[List.getD_eq_getElem?_getD,List.getElem?_eq_getElem hi]at this;exact Nat.le_trans this (Hq (by omega))
theorem oN {f:FF} (hr:RedR f n) (hn:n<=4) {B:Int} (h0:0<=B) (hB:B<=262144) {k:Nat} {y:List Int} (hk:y.length+(k+1)=n) (hy:yR y) (hP:lh f n B (k+1) (cw n y)):
  (kE f n B k (cw n y)).natAbs<=Ox (y.length+1)/\(kP f n B k (cw n y)).natAbs<=Ox (y.length+1):=
 PJ hr hn h0 hB (by omega) hP fun j hj hjn=>by
  have e:=Fl (a:=j-(k+1)) hk;rw[show k+1+(j-(k+1))=j by omega]at e;rw[e];exact Nat.le_trans (hy (j-(k+1)) (by omega)) (Hq (by omega))
end
end Go.Proofs.YtiollbhgpiiodaaGreatDoor
