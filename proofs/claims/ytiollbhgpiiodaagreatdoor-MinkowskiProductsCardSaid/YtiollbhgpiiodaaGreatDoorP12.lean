/-
  Part 13 of a proof (walks and plain facts).
-/
import Derived.Test.YtiollbhgpiiodaaGreatDoorP11
set_option linter.all false
set_option maxRecDepth 100000
set_option maxHeartbeats 64000000
open Nat renaming reduceAdd → aa
open Nat renaming reduceEqDiff → ae
open List renaming replicate → ag
open Nat renaming reduceBEq → ah
open Nat renaming reduceLeDiff → aj
open Int renaming reduceToNat → ao
open List renaming getElem?_eq_none → au
open List renaming length_replicate → az
open List renaming getElem?_map → aA
namespace Go.Proofs.YtiollbhgpiiodaaGreatDoor
open Go.RowKit
theorem Ji {P:Program} {p q t n:Nat} (h:ju P t=some n) (hn:n≠1): ∀x∈[(p,q,t)],ju P x.2.2≠some 1:=fun x hx=>by
 have:x=(p,q,t):=by simpa using hx
 subst this;rw[h];intro h';injection h' with h'
 exact hn h'
theorem Ca {s:AS} {p q t a r i j b r' i' j':Nat} (h1:s.tmps[p]?=some (.one (.ptr a r i j))) (h2:s.tmps[q]?=some (.one (.ptr b r' i' j'))) (hne:b≠a):yq [(p,q,t)] s:=fun x hx a2 r2 i2 j2 b2 r3 i3 j3 g1 g2=>by
 have:x=(p,q,t):=by simpa using hx
 subst this;simp only[h1]at g1;simp only[h2]at g2;injection g1 with g1;injection g1 with g1;injection g1 with g1
 injection g2 with g2;injection g2 with g2;injection g2 with g2
 subst g1 g2;exact hne
def tq (a b:Int):Int:=fD (!(decide (a<0)==decide (b<0))) (a.natAbs/b.natAbs)
def tr (a b:Int):Int:=fD (decide (a<0)) (a.natAbs%b.natAbs)
theorem Jp (a b:Int):tr a b+b*tq a b=a:=by
 have h:=Nat.div_add_mod a.natAbs b.natAbs;have h':(b.natAbs:Int)*((a.natAbs/b.natAbs:Nat):Int)+((a.natAbs%b.natAbs:Nat):Int)=(a.natAbs:Int):=by
  have:=congrArg (Nat.cast (R:=Int)) h;simpa using this
 unfold tq tr fD;generalize a.natAbs/b.natAbs=q at*
 generalize a.natAbs%b.natAbs=r at*
 by_cases ha:a<0<;>by_cases hb:b<0
 ·rw[decide_eq_true ha,decide_eq_true hb];show -(r:Int)+b*(q:Int)=a;rw[show(b.natAbs:Int)= -b by omega,show(a.natAbs:Int)= -a by omega,Int.neg_mul]at h';omega
 ·rw[decide_eq_true ha,decide_eq_false hb];show -(r:Int)+b* -(q:Int)=a;rw[show(b.natAbs:Int)=b by omega,show(a.natAbs:Int)= -a by omega]at h';rw[Int.mul_neg];omega
 ·rw[decide_eq_false ha,decide_eq_true hb];show(r:Int)+b* -(q:Int)=a;rw[show(b.natAbs:Int)= -b by omega,show(a.natAbs:Int)=a by omega,Int.neg_mul]at h';rw[Int.mul_neg];omega
 rw[decide_eq_false ha,decide_eq_false hb];show(r:Int)+b*(q:Int)=a;rw[show(b.natAbs:Int)=b by omega,show(a.natAbs:Int)=a by omega]at h';omega
theorem Jq (a b:Int):(tr a b).natAbs=a.natAbs%b.natAbs:=mP _ _
theorem Jo (a b:Int):(tq a b).natAbs=a.natAbs/b.natAbs:=mP _ _
theorem DY {a b:Int} (hb:b≠0):(tr a b).natAbs<b.natAbs:=by rw[Jq];exact Nat.mod_lt _ (by omega)
theorem A5 {a b:Int} (hb:b≠0) (h:0<=tr a b):a/b=tq a b/\a%b=tr a b:=by
 have h1:=Jp a b;have h2:=DY (a:=a) hb;rcases Int.lt_or_gt_of_ne hb with hn|hp
 ·exact(Int.ediv_emod_unique' hn).2 ⟨h1,h,by omega⟩
 exact(Int.ediv_emod_unique hp).2 ⟨h1,h,by omega⟩
theorem C8 {a b:Int} (hb:b<0) (h:tr a b<0):a/b=tq a b+1/\a%b=tr a b+b.natAbs:=by
 have h1:=Jp a b;have h2:=DY (a:=a) (b:=b) (by omega);refine(Int.ediv_emod_unique' hb).2 ⟨?_,by omega,by omega⟩;rw[Int.mul_add,Int.mul_one];omega
theorem C9 {a b:Int} (hb:0<b) (h:tr a b<0):a/b=tq a b-1/\a%b=tr a b+b.natAbs:=by
 have h1:=Jp a b;have h2:=DY (a:=a) (b:=b) (by omega);refine(Int.ediv_emod_unique hb).2 ⟨?_,by omega,by omega⟩;rw[Int.mul_sub,Int.mul_one];omega
theorem Sz.le {x y:Int} {k:Nat} (h:Sz y k) (hx:x.natAbs<=y.natAbs):Sz x k:=Nat.lt_of_le_of_lt hx h
theorem oN {k:Nat} (h:0<k):Sz 1 k:=by unfold Sz;exact Nat.one_lt_pow (by omega) (by decide)
theorem GB:Bh 1:=oN (by omega)
theorem I4 {z:Int} (h:z<0):sg z= -1:=by simp[sg,h]
theorem wu {z:Int} (h:0<=z):0<=sg z:=by unfold sg;split<;>(try split)<;>omega
theorem yj (a b:Int) (hb0:b≠0) (ha:Bh a) (hb:Bh b):CallC Tryz.prog 62 [tZ a,tZ b] ⟨[],.tup [(true,cZ (a/b)),(true,cZ (a%b)),(false,[.p (.raw (.bool true))])]⟩:=by
 have la:=ha.len;have lb:=hb.len;have t1:=iN (aR a.natAbs) ha.bg.len;have t2:=iN (aR b.natAbs) hb.bg.len;rw[gJ]at t1 t2;have hl0:(aR b.natAbs).length≠0:=fun h=>hb0 (by have:=fk.1 h;omega)
 have hd:=GY a.natAbs b.natAbs (by omega) la lb;have bq:Bh (tq a b):=ha.le (by rw[Jo];exact Nat.div_le_self _ _);have br:Bh (tr a b):=hb.le (Nat.le_of_lt (DY hb0));have hm1:=jl (!(decide (a<0)==decide (b<0))) (aR (a.natAbs/b.natAbs)) (aV _) (by have:=bq.bg.len;rwa[Jo]at this);have hm2:=jl (decide (a<0)) (aR (a.natAbs%b.natAbs)) (aV _) (by have:=br.bg.len;rwa[Jq]at this);rw[aP,show fD _ _=tq a b from rfl]at hm1;rw[aP,show fD _ _=tr a b from rfl]at hm2;have hs:=mQ (tr a b) br.bg;have p0:= @A5 a b hb0;have p1:= @C8 a b;have p2:= @C9 a b;generalize tq a b=Q at*
 generalize tr a b=R at*
 by_cases hR:R<0
 ·have hm3:=jl false (aR b.natAbs) (aV _) (by omega);rw[aP,show fD false b.natAbs=((b.natAbs:Nat):Int)from rfl]at hm3;have hA:=ve R (b.natAbs:Int) br (by unfold Bh Sz;rw[Int.natAbs_natCast];exact hb);have hs2:=mQ b hb.bg;have h1:=ee 1 (by omega) (by omega);rw[I4 hR]at hs;by_cases hbn:b<0
  ·obtain⟨e1,e2⟩:=p1 hbn hR;rw[e1,e2];rw[I4 hbn]at hs2;have hA2:=ve Q 1 bq GB;refine aJ Tryz.func62 rfl (by kernel_rfl) ?_;rw[Tryz.ntmps62];refine aF fun _ K=>?_;simp(disch:=omega) only[kd,aa,tZ,ag,ae];apply K
   refine bz bj [⟨2,_,_,_,t1⟩,⟨5,_,_,_,t2⟩] [] (by kernel_rfl) fun _ K=>?_;simp(disch:=omega) only[kd,bC,aa,ae,ah];apply K
   refine aH (aF fun _ K=>?_);simp(disch:=omega) only[kd,aa];apply K;refine aU rfl (aO ?_);show bu _ _ _ _;refine aI [⟨2,_,_,_,hd⟩] [] fun _ K=>?_;simp only[kd,bC,aa];apply K
   refine bz bj [⟨6,_,_,_,hm1⟩,⟨10,_,_,_,hm2⟩] [] (by kernel_rfl) fun _ K=>?_;simp(disch:=omega) only[kd,bC,tZ,aa,ae,ah];apply K
   refine bu.weak (aG (tm:=(jk::jk::.one (.ptr 2 0 0 0)::.one (.ptr 3 0 0 0)::.one (.ptr 4 0 0 0)::.one (.ptr 5 0 0 0)::.raw (.bool false)::jk::bC (aR b.natAbs)::jk::jk::.one (.ptr 11 0 0 0)::.one (.ptr 12 0 0 0)::j16 (j16 (j16 ([]))))) (l:=[(2,yg (decide (a<0)) (aR a.natAbs)),(3,yg true (aR b.natAbs)),(4,w7),(5,w7),(11,yg (decide (Q<0)) (aR Q.natAbs)),(12,yg true (aR R.natAbs))]) ⟨rfl,rfl,rfl,rfl,rfl,rfl,trivial⟩ (by simp[wk])) ?_;refine aH (aI [⟨1,_,_,_,hs⟩] [] fun _ K=>?_);simp(disch:=omega) only[kd,tZ,aa,bC,ae];apply K;refine bf rfl ?_;refine bz bj [⟨2,_,_,_,hm3⟩,⟨3,_,_,_,hA⟩] [] (by kernel_rfl) fun _ K=>?_;simp(disch:=omega) only[kd,bC,tZ,aa,ae,ah];apply K
   refine aH (aI [⟨1,_,_,_,hs2⟩] [] fun _ K=>?_);simp(disch:=omega) only[kd,tZ,aa,ae];apply K;refine bf rfl ?_;refine sn [(12,4,32)] bj [⟨1,_,_,_,h1⟩,⟨2,_,_,_,hA2⟩] [] (by kernel_rfl) (Ji (n:=2) (by simp only[r7,pX,nO,lP,r6,pW,lQ,uM,pZ,lO,yc,rZ,pY]) (by decide)) (Ca rfl rfl (by decide)) fun _ K=>?_;simp(disch:=omega) only[kd,tZ,aa,ae,ah];apply K
   (refine aK ⟨.inr rfl,aL rfl ?_ rfl⟩;simp(disch:=omega) only[kd,Tryz.results62,ae,aa,cZ])
  obtain⟨e1,e2⟩:=p2 (by omega) hR;rw[e1,e2];have hs3:=wu (z:=b) (by omega);have hA2:=MC Q 1 bq GB;refine aJ Tryz.func62 rfl (by kernel_rfl) ?_;rw[Tryz.ntmps62];refine aF fun _ K=>?_;simp(disch:=omega) only[kd,aa,tZ,ag,ae];apply K
  refine bz bj [⟨2,_,_,_,t1⟩,⟨5,_,_,_,t2⟩] [] (by kernel_rfl) fun _ K=>?_;simp(disch:=omega) only[kd,bC,aa,ae,ah];apply K
  refine aH (aF fun _ K=>?_);simp(disch:=omega) only[kd,aa];apply K;refine aU rfl (aO ?_);show bu _ _ _ _;refine aI [⟨2,_,_,_,hd⟩] [] fun _ K=>?_;simp only[kd,bC,aa];apply K
  refine bz bj [⟨6,_,_,_,hm1⟩,⟨10,_,_,_,hm2⟩] [] (by kernel_rfl) fun _ K=>?_;simp(disch:=omega) only[kd,bC,tZ,aa,ae,ah];apply K
  refine bu.weak (aG (tm:=(jk::jk::.one (.ptr 2 0 0 0)::.one (.ptr 3 0 0 0)::.one (.ptr 4 0 0 0)::.one (.ptr 5 0 0 0)::.raw (.bool false)::jk::bC (aR b.natAbs)::jk::jk::.one (.ptr 11 0 0 0)::.one (.ptr 12 0 0 0)::j16 (j16 (j16 ([]))))) (l:=[(2,yg (decide (a<0)) (aR a.natAbs)),(3,yg false (aR b.natAbs)),(4,w7),(5,w7),(11,yg (decide (Q<0)) (aR Q.natAbs)),(12,yg true (aR R.natAbs))]) ⟨rfl,rfl,rfl,rfl,rfl,rfl,trivial⟩ (by simp[wk])) ?_;refine aH (aI [⟨1,_,_,_,hs⟩] [] fun _ K=>?_);simp(disch:=omega) only[kd,tZ,aa,bC,ae];apply K;refine bf rfl ?_;refine bz bj [⟨2,_,_,_,hm3⟩,⟨3,_,_,_,hA⟩] [] (by kernel_rfl) fun _ K=>?_;simp(disch:=omega) only[kd,bC,tZ,aa,ae,ah];apply K
  refine aH (aI [⟨1,_,_,_,hs2⟩] [] fun _ K=>?_);simp(disch:=omega) only[kd,tZ,aa,ae];apply K;refine aU rfl (aO ?_);show bu _ _ _ _;refine sn [(12,4,32)] bj [⟨1,_,_,_,h1⟩,⟨2,_,_,_,hA2⟩] [] (by kernel_rfl) (Ji (n:=2) (by simp only[r7,pX,nO,lP,r6,pW,lQ,uM,pZ,lO,yc,rZ,pY]) (by decide)) (Ca rfl rfl (by decide)) fun _ K=>?_;simp(disch:=omega) only[kd,tZ,aa,ae,ah];apply K
  (refine aK ⟨.inr rfl,aL rfl ?_ rfl⟩;simp(disch:=omega) only[kd,Tryz.results62,ae,aa,cZ])
 obtain⟨e1,e2⟩:=p0 (by omega);rw[e1,e2];have hs3:=wu (z:=R) (by omega);refine aJ Tryz.func62 rfl (by kernel_rfl) ?_;rw[Tryz.ntmps62];refine aF fun _ K=>?_;simp(disch:=omega) only[kd,aa,tZ,ag,ae];apply K
 refine bz bj [⟨2,_,_,_,t1⟩,⟨5,_,_,_,t2⟩] [] (by kernel_rfl) fun _ K=>?_;simp(disch:=omega) only[kd,bC,aa,ae,ah];apply K
 refine aH (aF fun _ K=>?_);simp(disch:=omega) only[kd,aa];apply K;refine aU rfl (aO ?_);show bu _ _ _ _;refine aI [⟨2,_,_,_,hd⟩] [] fun _ K=>?_;simp only[kd,bC,aa];apply K
 refine bz bj [⟨6,_,_,_,hm1⟩,⟨10,_,_,_,hm2⟩] [] (by kernel_rfl) fun _ K=>?_;simp(disch:=omega) only[kd,bC,tZ,aa,ae,ah];apply K
 refine bu.weak (aG (tm:=(jk::jk::.one (.ptr 2 0 0 0)::.one (.ptr 3 0 0 0)::.one (.ptr 4 0 0 0)::.one (.ptr 5 0 0 0)::.raw (.bool false)::jk::bC (aR b.natAbs)::jk::jk::.one (.ptr 11 0 0 0)::.one (.ptr 12 0 0 0)::j16 (j16 (j16 ([]))))) (l:=[(2,yg (decide (a<0)) (aR a.natAbs)),(3,yg (decide (b<0)) (aR b.natAbs)),(4,w7),(5,w7),(11,yg (decide (Q<0)) (aR Q.natAbs)),(12,yg false (aR R.natAbs))]) ⟨rfl,rfl,rfl,rfl,rfl,rfl,trivial⟩ (by simp[wk])) ?_;refine aH (aI [⟨1,_,_,_,hs⟩] [] fun _ K=>?_);simp(disch:=omega) only[kd,tZ,aa,bC,ae];apply K;refine aU rfl (aO ?_);show bu _ _ _ _;refine sn [(12,4,32)] bj [] [] (by kernel_rfl) (Ji (n:=2) (by simp only[r7,pX,nO,lP,r6,pW,lQ,uM,pZ,lO,yc,rZ,pY]) (by decide)) (Ca rfl rfl (by decide)) fun _ K=>?_;simp(disch:=omega) only[kd,aa,ae];apply K
 (refine aK ⟨.inr rfl,aL rfl ?_ rfl⟩;simp(disch:=omega) only[kd,Tryz.results62,ae,aa,cZ])
theorem CH (a b:Int) (hb0:b≠0) (ha:Bh a) (hb:Bh b):CallC Tryz.prog 26 [tZ a,tZ b] ⟨[],tZ (a/b)⟩:=by
 have h1:=yj a b hb0 ha hb;refine aJ Tryz.func26 rfl (by kernel_rfl) ?_;rw[Tryz.ntmps26];refine aF fun _ K=>?_;simp(disch:=omega) only[kd,aa,tZ,ag,ae];apply K
 refine aI [⟨2,_,_,_,h1⟩] [] fun _ K=>?_;simp(disch:=omega) only[kd,tZ,cZ,aa,ae];apply K
 refine aF fun _ K=>?_;simp(disch:=omega) only[kd,ae,aa];apply K
 (refine aK ⟨.inr rfl,aL rfl ?_ rfl⟩;simp(disch:=omega) only[kd,Tryz.results26,ae,aa,tZ])
def fR {α:Type} (f:α->List PV) (r:List α):List PV:=[.sl (ls f r)]
abbrev bJ (M:List (List Int)):TV:= .one (.p (.sl (ls (fR fZ) M)))
abbrev rOk (n:Nat) (r:List Int):Prop:=1<=r.length/\r.length<=16/\r.length=n
def CI (M:List (List Int)):Prop:=1<=M.length/\M.length<=16/\ ∀r∈M,rOk (M.headD []).length r
instance (M:List (List Int)):Decidable (CI M):=by unfold CI;exact inferInstance
def Oo (M:List (List Int)):TV:=if CI M then .tup [(false,[.p (.raw (.int .i64 (M.length:Int)))]),(false,[.p (.raw (.int .i64 ((M.headD []).length:Int)))]),(false,[.p (.raw (.bool true))])]
 else .tup [(false,[.p (.raw (.int .i64 0))]),(false,[.p (.raw (.int .i64 0))]),(false,[.p (.raw (.bool false))])]
theorem fE {M:List (List Int)} (h: ¬CI M):Oo M= .tup [(false,[.p (.raw (.int .i64 0))]),(false,[.p (.raw (.int .i64 0))]),(false,[.p (.raw (.bool false))])]:=by unfold Oo;rw[if_neg h]
theorem iS {M:List (List Int)} (h:CI M):Oo M= .tup [(false,[.p (.raw (.int .i64 (M.length:Int)))]),(false,[.p (.raw (.int .i64 ((M.headD []).length:Int)))]),(false,[.p (.raw (.bool true))])]:=by unfold Oo;rw[if_pos h]
theorem ms {M:List (List Int)} (h:1<=M.length):M[0]?=some (M.headD []):=by cases M with
 |nil=>simp at h
 |cons r M=>rfl
structure QM (M:List (List Int)) where
 i:Nat
 hi:i<=M.length
 ok: ∀r∈M.take i,rOk (M.headD []).length r
theorem rB (M:List (List Int)):CallC Tryz.prog 85 [bJ M] ⟨[],Oo M⟩:=by
 by_cases h1:M.length<1
 ·rw[fE (fun h=>by have:=h.1;omega)];refine aJ Tryz.func85 rfl (by kernel_rfl) ?_;rw[Tryz.ntmps85];refine aF fun _ K=>?_;simp only[kd,aa,bJ,ag];apply K
  refine aH (aF fun _ K=>?_);simp(disch:=omega) only[kd,aa,reduceCtorEq];apply K;refine bf rfl ?_;refine aF fun _ K=>?_;simp only[kd,aa];apply K
  (refine aK ⟨.inr rfl,aL rfl ?_ rfl⟩;simp(disch:=omega) only[kd,Tryz.results85])
 by_cases h2:16<M.length
 ·rw[fE (fun h=>by have:=h.2.1;omega)];refine aJ Tryz.func85 rfl (by kernel_rfl) ?_;rw[Tryz.ntmps85];refine aF fun _ K=>?_;simp only[kd,aa,bJ,ag];apply K
  refine aH (aF fun _ K=>?_);simp(disch:=omega) only[kd,aa];apply K;refine bf rfl ?_;refine aF fun _ K=>?_;simp only[kd,aa];apply K
  (refine aK ⟨.inr rfl,aL rfl ?_ rfl⟩;simp(disch:=omega) only[kd,Tryz.results85])
 have h0:=ms (M:=M) (by omega);refine aJ Tryz.func85 rfl (by kernel_rfl) ?_;rw[Tryz.ntmps85];refine aF fun _ K=>?_;simp only[kd,aa,bJ,ag];apply K
 refine aH (aF fun _ K=>?_);simp(disch:=omega) only[kd,aa];apply K;refine aU rfl (aO ?_);show bu _ _ _ _;refine aH (aF fun _ K=>?_);simp only[kd,aa];apply K;refine aZ (G:=QM M) (fun g=>⟨(bJ M::jk::.raw (.int .i64 0)::.raw (.int .i64 0)::.raw (.bool false)::j4 (j4 (jk::jk::bJ M::rN M.length::rN g.i::j16 (j4 (j4 (jk::jk::jk::[])))))),Hm []⟩) (fun g=>M.length-g.i) ⟨0,by omega,fun r hr=>by simp at hr⟩ ?_ ?_
 ·refine aG trivial ?_;simp[wk]
 rintro⟨i,hi,ok⟩;simp only;by_cases hm:i<M.length
 ·obtain⟨r,hr⟩:=getElem?_of_lt hm;have hmem:r∈M:=List.mem_of_getElem? hr;refine aF fun _ K=>?_;simp(disch:=omega) only[kd,bJ];apply K
  refine bM rfl ?_;refine aH (aM ?_);refine aF fun _ K=>?_;simp(disch:=omega) only[kd,aa,hr,fR];apply K
  by_cases c1:r.length<1
  ·rw[fE (fun h=>by have:=(h.2.2 r hmem).1;omega)];refine aF fun _ K=>?_;simp(disch:=omega) only[kd,aa,reduceCtorEq,ao];apply K
   refine bf rfl ?_;refine aF fun _ K=>?_;simp only[kd,aa];apply K
   (refine aK ⟨.inr rfl,aL rfl ?_ rfl⟩;simp(disch:=omega) only[kd,Tryz.results85])
  by_cases c2:16<r.length
  ·rw[fE (fun h=>by have:=(h.2.2 r hmem).2.1;omega)];refine aF fun _ K=>?_;simp(disch:=omega) only[kd,aa,reduceCtorEq,ao];apply K
   refine bf rfl ?_;refine aF fun _ K=>?_;simp only[kd,aa];apply K
   (refine aK ⟨.inr rfl,aL rfl ?_ rfl⟩;simp(disch:=omega) only[kd,Tryz.results85])
  by_cases c3:r.length=(M.headD []).length
  ·refine aF fun _ K=>?_;simp(disch:=omega) only[kd,aa,ao,h0,fR];apply K
   refine aU rfl (aO ?_);show bu _ _ _ _;refine aN fun _ K=>?_;simp(disch:=omega) only[kd,aT];apply K
   refine⟨⟨i+1,by omega,fun r' hr'=>?_⟩,by simp only;omega,aG trivial ?_⟩
   ·rw[List.take_add_one,hr]at hr';rcases List.mem_append.1 hr' with h|h
    ·exact ok r' h
    have:r'=r:=by simpa using h
    subst this;exact⟨by omega,by omega,c3⟩
   simp[wk]
  rw[fE (fun h=>by have:=(h.2.2 r hmem).2.2;omega)];refine aF fun _ K=>?_;simp(disch:=omega) only[kd,aa,ao,h0,fR];apply K
  refine bf rfl ?_;refine aF fun _ K=>?_;simp only[kd,aa];apply K
  (refine aK ⟨.inr rfl,aL rfl ?_ rfl⟩;simp(disch:=omega) only[kd,Tryz.results85])
 have hsh:CI M:=⟨by omega,by omega,fun r hr=>ok r (by rw[List.take_of_length_le (by omega)];exact hr)⟩;rw[iS hsh];refine aF fun _ K=>?_;simp(disch:=omega) only[kd,bJ];apply K
 refine bV rfl ?_;show bu _ _ _ _;refine dF bj (by kernel_rfl) fun _ K=>?_;simp(disch:=omega) only[kd,aa,ao,h0,fR];apply K
 (refine aK ⟨.inr rfl,aL rfl ?_ rfl⟩;simp(disch:=omega) only[kd,Tryz.results85])
def PL (M:List (List Int)):Prop:=CI M/\M.length=(M.headD []).length
instance (M:List (List Int)):Decidable (PL M):=by unfold PL;exact inferInstance
def MW (M:List (List Int)):TV:=if PL M then .tup [(false,[.p (.raw (.int .i64 (M.length:Int)))]),(false,[.p (.raw (.bool true))])]else .tup [(false,[.p (.raw (.int .i64 0))]),(false,[.p (.raw (.bool false))])]
theorem yr (M:List (List Int)):CallC Tryz.prog 75 [bJ M] ⟨[],MW M⟩:=by
 have hS:=rB M;by_cases h1:CI M
 ·rw[iS h1]at hS;by_cases h2:M.length=(M.headD []).length
  ·rw[show MW M=_ from if_pos ⟨h1,h2⟩];refine aJ Tryz.func75 rfl (by kernel_rfl) ?_;rw[Tryz.ntmps75];refine aF fun _ K=>?_;simp only[kd,bJ,ag];apply K
   refine aI [⟨1,_,_,_,hS⟩] [] fun _ K=>?_;simp only[kd,bJ,aa];apply K
   refine aH (aF fun _ K=>?_);simp(disch:=omega) only[kd,aa];apply K;refine aU rfl (aO ?_);show bu _ _ _ _;refine aF fun _ K=>?_;simp only[kd,aa];apply K
   (refine aK ⟨.inr rfl,aL rfl ?_ rfl⟩;simp(disch:=omega) only[kd,Tryz.results75])
  rw[show MW M=_ from if_neg (fun h=>h2 h.2)];refine aJ Tryz.func75 rfl (by kernel_rfl) ?_;rw[Tryz.ntmps75];refine aF fun _ K=>?_;simp only[kd,bJ,ag];apply K
  refine aI [⟨1,_,_,_,hS⟩] [] fun _ K=>?_;simp only[kd,bJ,aa];apply K
  refine aH (aF fun _ K=>?_);simp(disch:=omega) only[kd,aa];apply K;refine bf rfl ?_;refine aF fun _ K=>?_;simp only[kd];apply K
  (refine aK ⟨.inr rfl,aL rfl ?_ rfl⟩;simp(disch:=omega) only[kd,Tryz.results75])
 rw[fE h1]at hS;rw[show MW M=_ from if_neg (fun h=>h1 h.1)];refine aJ Tryz.func75 rfl (by kernel_rfl) ?_;rw[Tryz.ntmps75];refine aF fun _ K=>?_;simp only[kd,bJ,ag];apply K
 refine aI [⟨1,_,_,_,hS⟩] [] fun _ K=>?_;simp only[kd,bJ,aa];apply K
 refine aH (aF fun _ K=>?_);simp(disch:=omega) only[kd,aa,reduceCtorEq];apply K;refine bf rfl ?_;refine aF fun _ K=>?_;simp only[kd];apply K
 (refine aK ⟨.inr rfl,aL rfl ?_ rfl⟩;simp(disch:=omega) only[kd,Tryz.results75])
def gk (d:Nat) (l:List Nat):List (List AV):=l.mapIdx fun k c=>[.sl d (k+1) 0 c]
def mO (r:List Int):OObj:=⟨32,2,lc fZ r⟩
def MM (d:Nat) (R:List (List Int)):List OObj:=⟨61,1,gk d (R.map List.length)⟩::R.map mO
def M2 (d n c i:Nat):List OObj:=⟨61,1,gk d (ag i c)++ag (n-i) [.p (.sl [])]⟩::ag i (mO (ag c 0))
theorem ch (d:Nat) (l:List Nat):(gk d l).length=l.length:=by simp[gk]
theorem mS (d:Nat) (l:List Nat) (c:Nat):gk d (l++[c])=gk d l++[[.sl d (l.length+1) 0 c]]:=by simp[gk,List.mapIdx_append]
theorem MV (d:Nat) (l:List Nat):(gk d l).map (List.map Ax)=gk d l:=by
 apply List.ext_getElem?;intro k;simp only[gk,aA,List.getElem?_mapIdx];cases l[k]?<;>rfl
theorem Px (r:List Int):(lc fZ r).map (List.map Ax)=lc fZ r:=by simp[lc,fZ,Ax,CC]
theorem FX (d n c:Nat):([⟨61,1,ag n [.raw (.slice none 0 0)]⟩]:List OObj).map zO=M2 d n c 0:=by
 simp[M2,zO,gk,Ax,CC]
theorem JX (d n c:Nat):M2 d n c n=MM d (ag n (ag c 0)):=by
 simp[M2,MM]
theorem D5 {d n c i:Nat} (hi:i<n):(gk d (ag i c)++ag (n-i) [AV.p (PV.sl [])])[i]?=some [.p (.sl [])]:=by
 rw[List.getElem?_append_right (by simp[ch]),ch,az,Nat.sub_self,List.getElem?_replicate,if_pos (by omega)]
theorem JY {d n c i:Nat} (hi:i<n):
  ((⟨61,1,(gk d (ag i c)++ag (n-i) [AV.p (PV.sl [])]).set i [.sl d (i+1) 0 c]⟩::ag i (mO (ag c 0))++[⟨32,2,ag c [.raw (.bool false),.raw (.slice none 0 0)]⟩]:List OObj)).map zO=M2 d n c (i+1):=by
 have e1:(gk d (ag i c)++ag (n-i) [AV.p (PV.sl [])]).set i [.sl d (i+1) 0 c]=gk d (ag (i+1) c)++ag (n-(i+1)) [AV.p (PV.sl [])]:=by
  rw[List.set_append_right _ _ (by simp[ch]),ch,az,Nat.sub_self,List.replicate_succ' (n:=i),mS,az,List.append_assoc]
  congr 1
  rw[show n-i=n-(i+1)+1 by omega,List.replicate_succ];rfl
 rw[e1];simp only[List.cons_append,List.map_cons,List.map_append,List.map_replicate,M2]
 congr 1
 ·simp[zO,MV,Ax,CC]
 rw[List.replicate_succ']
 congr 1
 ·congr 1
  simp[zO,mO,Px]
 simp[zO,mO,lc,fZ,Ax,CC,cw,ls]
theorem DP (d e:Nat) (l:List Nat):(gk d l).map (List.map (dS e))=gk e l:=by
 apply List.ext_getElem?;intro k;simp only[gk,aA,List.getElem?_mapIdx];cases l[k]?<;>rfl
theorem LH (e:Nat) (r:List Int):renO e (mO r)=mO r:=by simp[renO,mO,xt]
theorem Dx (d e:Nat) (R:List (List Int)):(MM d R).map (renO e)=MM e R:=by
 simp only[MM,List.map_cons,List.map_map]
 congr 1
 ·simp[renO,DP]
 exact List.map_congr_left fun r _=>LH e r
structure QQ (n:Nat) where
 i:Nat
 hi:i<=n
theorem wP (n c:Nat) (hn:n<=16) (hc:c<=16):CallC Tryz.prog 64 [.raw (.int .i64 (n:Int)),.raw (.int .i64 (c:Int))] ⟨MM 0 (ag n (ag c 0)),.one (.sl 0 0 0 n)⟩:=by
 refine aJ Tryz.func64 rfl (by kernel_rfl) ?_;rw[Tryz.ntmps64];refine aF fun _ K=>?_;simp only[kd,aa,ag];apply K
 refine aF fun _ K=>?_;simp(disch:=omega) only[kd,aa];apply K
 refine aH (aF fun _ K=>?_);simp only[kd,aa];apply K;refine aZ (G:=QQ n) (fun g=>⟨(.raw (.int .i64 (n:Int))::rN c::jk::jk::.raw (.slice none 0 0)::.one (.sl 8 0 0 n)::j4 (.raw (.int .i64 (n:Int))::rN g.i::j4 (j4 (jk::[])))),Hm [(8,M2 8 n c g.i)]⟩) (fun g=>n-g.i) ⟨0,by omega⟩ ?_ ?_
 ·refine(gy 8).trans (aG ⟨FX 8 n c,trivial⟩ ?_);simp[wk]
 rintro⟨i,hi⟩;simp only;by_cases hm:i<n
 ·refine aF fun _ K=>?_;simp(disch:=omega) only[kd];apply K
  refine bM rfl ?_;refine aH (aM ?_);refine aF fun _ K=>?_;simp only[kd];apply K
  simp only[M2];have hg:=D5 (d:=8) (c:=c) hm;refine aN fun _ K=>?_;simp(disch:=omega) only[kd,aa,ae,hg,aj,az,List.all_replicate,ite_self,ah];apply K
  show bu _ _ _ _;refine aN fun _ K=>?_;simp(disch:=omega) only[kd,aT];apply K
  refine⟨⟨i+1,by omega⟩,by simp only;omega,(gy 8).trans (aG ⟨JY hm,trivial⟩ ?_)⟩;simp[wk]
 have hin:i=n:=by omega
 subst hin;refine aF fun _ K=>?_;simp(disch:=omega) only[kd];apply K
 refine bV rfl ?_;show bu _ _ _ _;rw[JX];refine aF fun _ K=>?_;simp only[kd];apply K
 refine aK ⟨.inr rfl,_,cj.refl _,?_⟩;refine⟨.one (.sl 8 0 0 i),8,?_,rfl,?_,rfl⟩
 ·simp(disch:=omega) only[kd,Tryz.results64]
 exact(Dx 8 0 _).symm
abbrev iv (d n c:Nat) (f:FF):List OObj:=⟨61,1,gk d (ag n c)⟩::(bx n c f).map mO
theorem Hz (n c:Nat) (f:FF):(bx n c f).map List.length=ag n c:=by
 apply List.ext_getElem?;intro i;rw[aA,List.getElem?_replicate];by_cases h:i<n
 ·rw[bD _ _ h,if_pos h];simp[bE]
 rw[au (by rw[bi];omega),if_neg h];rfl
theorem qu (d n c:Nat) (f:FF):MM d (bx n c f)=iv d n c f:=by rw[MM,Hz]
theorem rL (n c:Nat):ag n (ag c (0:Int))=bx n c fun _ _=>0:=by
 apply List.ext_getElem?;intro i;rw[List.getElem?_replicate];by_cases h:i<n
 ·rw[bD _ _ h,if_pos h]
  congr 1
  apply List.ext_getElem?;intro j;rw[List.getElem?_replicate];by_cases h:j<c
  ·rw[aY _ h,if_pos h]
  rw[au (by rw[bE];omega),if_neg h]
 rw[au (by rw[bi];omega),if_neg h]
theorem bZ {n i:Nat} (d c:Nat) (h:i<n):(gk d (ag n c))[i]?=some [.sl d (i+1) 0 c]:=by
 simp[gk,h]
theorem fV {n i:Nat} (c:Nat) (f:FF) (h:i<n):((bx n c f).map mO)[i]?=some ⟨32,2,lc fZ (bT c (f i))⟩:=by
 rw[aA,bD _ _ h];rfl
def upd (f:FF) (i j:Nat) (v:Int):Nat->Nat->Int:=fun a=>if a=i then(fun b=>if b=j then v else f i b)else f a
theorem lE {n i j:Nat} (c:Nat) (f:FF) (v:Int):((bx n c f).map mO).set i ⟨32,2,(lc fZ (bT c (f i))).set j [.p (.raw (.bool (decide (v<0)))),.p (.sl (ls fU (aR v.natAbs)))]⟩=(bx n c (upd f i j v)).map mO:=by
 have e:(⟨32,2,(lc fZ (bT c (f i))).set j [.p (.raw (.bool (decide (v<0)))),.p (.sl (ls fU (aR v.natAbs)))]⟩:OObj)=mO (bT c fun b=>if b=j then v else f i b):=by
  rw[<- pJ,mO,<- xu];rfl
 rw[e,<- List.map_set,Dv];rfl
theorem cU {n c:Nat} {f g:FF} (h: ∀i j,i<n->j<c->f i j=g i j):(bx n c f).map mO=(bx n c g).map mO:=by rw[gX h]
theorem fQ (d e n c:Nat) (f:FF):(iv d n c f).map (renO e)=iv e n c f:=by rw[<- qu,<- qu,Dx]
theorem jF {H:OH} {d n c:Nat} {f:FF} (h:H d=iv d n c f):uU H d:=fun r o ho e he x hx=>by
 rw[h]at ho;cases r with
 |succ r=>
  rw[List.getElem?_cons_succ,aA]at ho;obtain⟨l,hl,rfl⟩:=Option.map_eq_some_iff.1 ho;exact .inl (d6 _ _ l e he x hx)
 |zero=>
  simp at ho;subst ho;simp only at he;obtain⟨k,hk⟩:=List.mem_iff_getElem?.1 he;have hkn:k<n:=by
   have:=(List.getElem?_eq_some_iff.1 hk).1;rwa[ch,az]at this
  rw[bZ d c hkn]at hk;injection hk with hk
  subst hk;simp at hx;subst hx;refine .inr ⟨k+1,0,c,mO (bT c (f k)),rfl,?_,d6 _ _ _⟩;rw[h,List.getElem?_cons_succ,aA,bD _ _ hkn];rfl
theorem MK {H:OH} {d n c:Nat} {f:FF} (h:H d=iv d n c f):gO H d (.one (.sl d 0 0 n))=bJ (bx n c f):=by
 have e:((gk d (ag n c)).map (List.map (jC H d)))=ls (fR fZ) (bx n c f):=by
  apply List.ext_getElem?;intro i;rw[aA,gH];by_cases hi:i<n
  ·rw[bZ d c hi,bD _ _ hi];simp only[Option.map_some,List.map_cons,List.map_nil,jC,h,List.getElem?_cons_succ,fV _ _ hi,fR,fP,xq,rK];rw[List.drop_zero,List.take_of_length_le (by rw[bE];omega)]
  rw[au (by rw[ch,az];omega),au (by rw[bi];omega)];rfl
 simp only[gO,fj,if_true,h,List.getElem?_cons_zero];rw[List.drop_zero,List.take_of_length_le (by rw[ch,az];omega),e]
abbrev bS (M:List (List Int)):TV:= .one (.p (.sl (ls (fR fI) M)))
def OR (M:List (List Int)):TV:= .tup [(false,[.p (.sl (ls (fR fZ) M))]),(false,[.p (.raw (.bool true))])]
structure kK (n:Nat) where
 i:Nat
 hi:i<=n
def part (f:FF) (i j:Nat):Nat->Nat->Int:=fun a b=>if a<i\/(a=i/\b<j)then f a b else 0
theorem i5 (f:FF) (i j a b:Nat):upd (part f i j) i j (f i j) a b=part f i (j+1) a b:=by
 unfold upd part;by_cases h1:a=i
 ·subst h1;by_cases h2:b=j
  ·subst h2;simp
  have:b<j+1↔b<j:=by omega
  simp[h2,this]
 simp[h1]
theorem kA {c:Nat} (f:FF) (i a b:Nat) (hb:b<c):part f i c a b=part f (i+1) 0 a b:=by
 unfold part;by_cases h1:a<i
 ·rw[if_pos (.inl h1),if_pos (.inl (by omega))]
 by_cases h2:a=i
 ·rw[if_pos (.inr ⟨h2,hb⟩),if_pos (.inl (by omega))]
 rw[if_neg (by omega),if_neg (by omega)]
theorem kx {n:Nat} (f:FF) (a b:Nat) (ha:a<n):part f n 0 a b=f a b:=by
 unfold part;rw[if_pos (.inl ha)]
theorem wj (f:FF):part f 0 0=fun _ _=>0:=by
 funext a b;unfold part;rw[if_neg (by omega)]
theorem AB (n c:Nat) (f:FF) (hn1:1<=n) (hn:n<=16) (hc1:1<=c) (hc:c<=16) (hf: ∀i j,i<n->j<c-> -9223372036854775808<=f i j/\f i j<=9223372036854775807):
  CallC Tryz.prog 29 [bS (bx n c f)] ⟨[],OR (bx n c f)⟩:=by
 have hml:=bi n c f;have h0:=bD (n:=n) c f (i:=0) (by omega);have hZ:=wP n c hn hc;rw[rL,qu]at hZ;refine aJ Tryz.func29 rfl (by kernel_rfl) ?_;rw[Tryz.ntmps29];refine aF fun _ K=>?_;simp only[kd,bS,ag];apply K
 refine aH (aF fun _ K=>?_);simp(disch:=omega) only[kd,aa,hml];apply K;refine aU rfl (aO ?_);show bu _ _ _ _;refine aH (aF fun _ K=>?_);simp only[kd,aa,hml];apply K;refine aZ (G:=kK n) (fun g=>⟨(bS (bx n c f)::jk::.raw (.slice none 0 0)::.raw (.bool false)::j4 (j4 (j4 (jk::bS (bx n c f)::rN n::rN g.i::j16 (j16 (j16 (j4 (j4 (jk::jk::[]))))))))),Hm []⟩) (fun g=>n-g.i) ⟨0,by omega⟩ ?_ ?_
 ·refine aG trivial ?_;simp[wk]
 rintro⟨i,hi⟩;simp only;by_cases hm:i<n
 ·have hr:=bD c f hm;refine aF fun _ K=>?_;simp(disch:=omega) only[kd,bS];apply K
  refine bM rfl ?_;refine aH (aM ?_);refine aF fun _ K=>?_;simp(disch:=omega) only[kd,aa,hr,fR];apply K
  refine aF fun _ K=>?_;simp(disch:=omega) only[kd,aa,bE,ao,h0,fR];apply K
  refine aU rfl (aO ?_);show bu _ _ _ _;refine aN fun _ K=>?_;simp(disch:=omega) only[kd,aT];apply K
  refine⟨⟨i+1,by omega⟩,by simp only;omega,aG trivial ?_⟩;simp[wk]
 refine aF fun _ K=>?_;simp(disch:=omega) only[kd,bS];apply K
 refine bV rfl ?_;show bu _ _ _ _;refine aI [⟨6,_,_,_,hZ⟩] [] fun _ K=>?_;simp(disch:=omega) only[kd,aa,hml,ao,h0,fR,bE];apply K
 refine aH (aF fun _ K=>?_);simp only[kd,aa,hml];apply K;refine aZ (G:=kK n) (fun g=>⟨(bS (bx n c f)::jk::.raw (.slice none 0 0)::.raw (.bool false)::jk::jk::.one (.sl 47 0 0 n)::j16 (j16 (j4 (j4 (jk::jk::rN n::rN g.i::j16 (j4 (j4 (jk::jk::jk::[])))))))),Hm [(47,iv 47 n c (part f g.i 0))]⟩) (fun g=>n-g.i) ⟨0,by omega⟩ ?_ ?_
 ·refine aG ⟨?_,trivial⟩ ?_
  ·rw[wj];exact fQ 0 47 n c _
  simp[wk]
 rintro⟨i,hi⟩;simp only;by_cases hm2:i<n
 ·have hr:=bD c f hm2;refine aF fun _ K=>?_;simp(disch:=omega) only[kd,bS];apply K
  refine bM rfl ?_;refine aH (aM ?_);refine aF fun _ K=>?_;simp only[kd];apply K
  refine aF fun _ K=>?_;simp(disch:=omega) only[kd,aa,hr,fR,bE];apply K
  refine aZ (G:=kK c) (fun g=>⟨(bS (bx n c f)::jk::.raw (.slice none 0 0)::.raw (.bool false)::jk::jk::.one (.sl 47 0 0 n)::rN i::j16 (j16 (j4 (j4 (jk::rN n::rN i::j4 (jk::jk::rN c::rN g.i::j16 (jk::jk::jk::[]))))))),Hm [(47,iv 47 n c (part f i g.i))]⟩) (fun g=>c-g.i) ⟨0,by omega⟩ ?_ ?_
  ·refine aG ⟨rfl,trivial⟩ ?_;simp[wk]
  rintro⟨j,hj⟩;simp only;by_cases hm3:j<c
  ·have hjr:=aY (f i) hm3;have hS:=ee (f i j) (hf i j hm2 hm3).1 (hf i j hm2 hm3).2;have g1:=bZ (n:=n) (i:=i) 47 c hm2;have g2:=fV c (part f i j) hm2;have g3:=aY (part f i j i) hm3;refine aF fun _ K=>?_;simp(disch:=omega) only[kd,bS];apply K
   refine bM rfl ?_;refine aH (aM ?_);refine aF fun _ K=>?_;simp only[kd];apply K
   refine dT bj [⟨12,_,_,_,hS⟩] [] (by kernel_rfl) fun _ K=>?_;simp(disch:=omega) only[kd,tZ,aa,g1,hr,fR,hjr,g2,fZ,g3,lE];apply K
   show bu _ _ _ _;refine aN fun _ K=>?_;simp(disch:=omega) only[kd,aT];apply K
   refine⟨⟨j+1,by omega⟩,by simp only;omega,aG ⟨?_,trivial⟩ ?_⟩
   ·show _::_=_::_;rw[cU fun a b _ _=>i5 f i j a b]
   simp[wk]
  have hjc:j=c:=by omega
  subst hjc;refine aF fun _ K=>?_;simp(disch:=omega) only[kd,bS];apply K
  refine bV rfl ?_;show bu _ _ _ _;refine aN fun _ K=>?_;simp(disch:=omega) only[kd,aT];apply K
  refine⟨⟨i+1,by omega⟩,by simp only;omega,aG ⟨?_,trivial⟩ ?_⟩
  ·show _::_=_::_;rw[cU fun a b _ hb=>kA f i a b hb]
  simp[wk]
 have hin:i=n:=by omega
 subst hin;refine aF fun _ K=>?_;simp(disch:=omega) only[kd,bS];apply K
 refine bV rfl ?_;show bu _ _ _ _;have e:iv 47 i c (part f i 0)=iv 47 i c f:=by
  show _::_=_::_;rw[cU fun a b ha _=>kx f a b ha]
 rw[e];refine bu.weak ((bX 47 (jF rfl)).trans (aG (tm:=(j4 (jk::jk::bJ (bx i c f)::j16 (j16 (j16 (j16 (j4 (jk::jk::jk::[])))))))) (l:=[]) trivial (by simp[wk];exact(MK (H:=Hm [(47,iv 47 i c f)]) (d:=47) (n:=i) (c:=c) (f:=f) rfl).symm))) ?_;refine aF fun _ K=>?_;simp only[kd,aa,bJ];apply K
 (refine aK ⟨.inr rfl,aL rfl ?_ rfl⟩;simp(disch:=omega) only[kd,Tryz.results29,OR])
theorem Nh (n c:Nat) (f:FF) (hn1:1<=n) (hn:n<=16) (hc1:1<=c) (hc:c<=16) (hf: ∀i j,i<n->j<c-> -9223372036854775808<=f i j/\f i j<=9223372036854775807):
  CallC Tryz.prog 10 [bS (bx n c f)] ⟨[],bJ (bx n c f)⟩:=by
 have hF:=AB n c f hn1 hn hc1 hc hf;refine aJ Tryz.func10 rfl (by kernel_rfl) ?_;rw[Tryz.ntmps10];refine aF fun _ K=>?_;simp only[kd,bS,ag];apply K
 refine aI [⟨1,_,_,_,hF⟩] [] fun _ K=>?_;simp only[kd,bS,OR,aa];apply K
 refine aF fun _ K=>?_;simp only[kd];apply K
 (refine aK ⟨.inr rfl,aL rfl ?_ rfl⟩;simp(disch:=omega) only[kd,Tryz.results10,bJ])
abbrev ru (l:List Nat):TV:= .one (.p (.sl (ls fN l)))
theorem KO (k more:Nat) (hk:k<=16) (hm:more<=16):CallC Tryz.prog 110 [.raw (.int .i64 (k:Int)),.raw (.int .i64 (more:Int))] ⟨[],ru (List.range k++[more])⟩:=by
 refine aJ Tryz.func110 rfl (by kernel_rfl) ?_;rw[Tryz.ntmps110];refine aF fun _ K=>?_;simp only[kd,aa,ag];apply K
 refine aF fun _ K=>?_;simp only[kd];apply K
 refine aH (aF fun _ K=>?_);simp only[kd];apply K;refine aZ (G:=kK k) (fun g=>⟨(.raw (.int .i64 (k:Int))::rN more::jk::jk::.raw (.slice none 0 0)::.one (.sl 15 0 0 g.i)::rN g.i::j4 (j4 (j4 (jk::[])))),Hm [(15,[⟨3,1,lc fN (List.range g.i)⟩])]⟩) (fun g=>k-g.i) ⟨0,by omega⟩ ?_ ?_
 ·refine(eK (k:=5) (d:=15) 3 1 (by omega) rfl rfl).trans (aG ⟨rfl,trivial⟩ ?_);simp[wk]
 rintro⟨i,hi⟩;simp only;by_cases hm:i<k
 ·refine aH (aF fun _ K=>?_);simp(disch:=omega) only[kd,aa];apply K;refine bf rfl (aO ?_);refine aH (aM ?_);refine aN fun _ K=>?_;simp(disch:=omega) only[kd,aa,Nat.reduceMul,aj,List.length_range,mt];apply K
  show bu _ _ _ _;refine aN fun _ K=>?_;simp(disch:=omega) only[kd,aa,aT];apply K
  refine⟨⟨i+1,by omega⟩,by simp only;omega,aG ⟨?_,trivial⟩ ?_⟩
  ·rw[List.range_succ];rfl
  simp[wk]
 have hik:i=k:=by omega
 subst hik;refine aH (aF fun _ K=>?_);simp(disch:=omega) only[kd,aa];apply K;refine aU rfl (bK ?_);show bu _ _ _ _;refine aF fun _ K=>?_;simp(disch:=omega) only[kd,aa,Nat.reduceMul,aj,List.length_range,mt];apply K
 refine aK ⟨.inr rfl,lI 15 (cJ rfl) ?_ rfl⟩;have eT:List.take (i+1) (List.range i++[more])=List.range i++[more]:=List.take_of_length_le (by simp);simp(disch:=omega) only[kd,Tryz.results110,eT,ru]
structure P9 (n:Nat) where
 i:Nat
 hi:i<=n
theorem tz (l:List Int) (v:Int):lc fZ l++[[.p (.raw (.bool (decide (v<0)))),.p (.sl (ls fU (aR v.natAbs)))]]=lc fZ (l++[v]):=by simp[lc,fZ]
theorem Hw (M:List (List Int)) (r:List Int):lc (fR fZ) M++[[.p (.sl (ls fZ r))]]=lc (fR fZ) (M++[r]):=by simp[lc,fR]
theorem wB {α β:Type} {l:List α} {i:Nat} {x:α} (g:α->β) (h:l[i]?=some x):(l.take i).map g++[g x]=(l.take (i+1)).map g:=by
 rw[List.take_add_one,h];simp
theorem yp (n c:Nat) (f:FF) (rs cs:List Nat) (hn:n<=16) (hc:c<=16) (hr: ∀x∈rs,x<n) (hs: ∀x∈cs,x<c) (lr:rs.length<=17) (lcs:cs.length<=17):
  CallC Tryz.prog 109 [bJ (bx n c f),ru rs,ru cs] ⟨[],bJ (rs.map fun i=>cs.map (f i))⟩:=by
 have hml:=bi n c f;refine aJ Tryz.func109 rfl (by kernel_rfl) ?_;rw[Tryz.ntmps109];refine aF fun _ K=>?_;simp only[kd,bJ,ru,aa,ag];apply K
 refine aF fun _ K=>?_;simp only[kd];apply K
 refine aH (aF fun _ K=>?_);simp only[kd,aa];apply K;refine aZ (G:=P9 rs.length) (fun g=>⟨(bJ (bx n c f)::ru rs::ru cs::jk::jk::jk::.raw (.slice none 0 0)::.one (.sl 39 0 0 g.i)::j4 (jk::ru rs::rN rs.length::rN g.i::j16 (j4 (j4 (jk::jk::[]))))),Hm [(39,[⟨61,1,lc (fR fZ) ((rs.take g.i).map fun i=>cs.map (f i))⟩])]⟩) (fun g=>rs.length-g.i) ⟨0,by omega⟩ ?_ ?_
 ·refine(eK (k:=7) (d:=39) 61 1 (by omega) rfl rfl).trans (aG ⟨rfl,trivial⟩ ?_);simp[wk]
 rintro⟨i,hi⟩;simp only;by_cases hm:i<rs.length
 ·obtain⟨r,hri⟩:=getElem?_of_lt hm;have hrn:=hr r (List.mem_of_getElem? hri);have hrow:=bD c f hrn;refine aF fun _ K=>?_;simp(disch:=omega) only[kd,bJ,ru];apply K
  refine bM rfl ?_;refine aH (aM ?_);refine aF fun _ K=>?_;simp(disch:=omega) only[kd,aa,hri];apply K
  refine aF fun _ K=>?_;simp only[kd];apply K
  refine aH (aF fun _ K=>?_);simp only[kd,aa];apply K;refine aZ (G:=P9 cs.length) (fun g=>⟨(bJ (bx n c f)::ru rs::ru cs::jk::jk::jk::.raw (.slice none 0 0)::.one (.sl 39 0 0 i)::jk::rN r::.one (.sl 34 0 0 g.i)::jk::jk::ru rs::rN rs.length::rN i::jk::jk::jk::ru cs::rN cs.length::rN g.i::j16 (j4 ([]))),Hm [(39,[⟨61,1,lc (fR fZ) ((rs.take i).map fun i=>cs.map (f i))⟩]),(34,[⟨32,2,lc fZ ((cs.take g.i).map (f r))⟩])]⟩) (fun g=>cs.length-g.i) ⟨0,by omega⟩ ?_ ?_
  ·refine(eK (k:=10) (d:=34) 32 2 (by omega) rfl rfl).trans (aG ⟨rfl,rfl,trivial⟩ ?_);simp[wk]
  rintro⟨j,hj⟩;simp only;by_cases hm2:j<cs.length
  ·obtain⟨s,hsj⟩:=getElem?_of_lt hm2;have hsc:=hs s (List.mem_of_getElem? hsj);have hent:=aY (f r) hsc;have eL:((cs.take j).map (f r)).length=j:=by simp;omega
   refine aF fun _ K=>?_;simp(disch:=omega) only[kd,bJ,ru];apply K
   refine bM rfl ?_;refine aH (aM ?_);refine aF fun _ K=>?_;simp(disch:=omega) only[kd,aa,hsj];apply K
   refine aN fun _ K=>?_;simp(disch:=omega) only[kd,aa,hrow,fR,hent,fZ,Nat.reduceMul,aj,ae,eL,tz,wB (f r) hsj,ah];apply K
   show bu _ _ _ _;refine aN fun _ K=>?_;simp(disch:=omega) only[kd,aT];apply K
   refine⟨⟨j+1,by omega⟩,by simp only;omega,aG ⟨rfl,rfl,trivial⟩ ?_⟩;simp[wk]
  have hjc:j=cs.length:=by omega
  subst hjc;refine aF fun _ K=>?_;simp(disch:=omega) only[kd,bJ,ru];apply K
  refine bV rfl ?_;show bu _ _ _ _;refine bu.weak ((bX 34 (cJ rfl)).trans (aG (tm:=(bJ (bx n c f)::ru rs::ru cs::jk::jk::jk::.raw (.slice none 0 0)::.one (.sl 39 0 0 i)::jk::jk::.one (.p (.sl (ls fZ (cs.map (f r)))))::jk::jk::ru rs::rN rs.length::rN i::j16 (j4 (j4 (jk::jk::[]))))) (l:=[(39,[⟨61,1,lc (fR fZ) ((rs.take i).map fun i=>cs.map (f i))⟩])]) ⟨rfl,trivial⟩ (by simp[wk,gO,fj,Hm,fP,gG,List.take_of_length_le]))) ?_;have eL:((rs.take i).map fun i=>cs.map (f i)).length=i:=by simp;omega
  have eS:=wB (fun i=>cs.map (f i)) hri;refine aN fun _ K=>?_;simp(disch:=omega) only[kd,aa,bJ,ru,Nat.reduceMul,aj,eL,Hw,eS];apply K
  show bu _ _ _ _;refine aN fun _ K=>?_;simp(disch:=omega) only[kd,aT];apply K
  refine⟨⟨i+1,by omega⟩,by simp only;omega,aG ⟨rfl,trivial⟩ ?_⟩;simp[wk]
 have hin:i=rs.length:=by omega
 subst hin;refine aF fun _ K=>?_;simp(disch:=omega) only[kd,bJ,ru];apply K
 refine bV rfl ?_;show bu _ _ _ _;refine aF fun _ K=>?_;simp only[kd];apply K
 refine aK ⟨.inr rfl,lI 39 (cJ rfl) ?_ rfl⟩;have eT:List.take rs.length (List.map (fun i=>cs.map (f i)) rs)=rs.map fun i=>cs.map (f i):=List.take_of_length_le (by simp)
 simp(disch:=omega) only[kd,Tryz.results109,List.take_length,eT,bJ]
abbrev oG:List AV:=[.raw (.slice none 0 0)]
theorem nw {α:Type} {A:List α} {x:α} {l:List α} {i:Nat} (h:A.length=i):(A++x::l)[i]?=some x:=by
 rw[List.getElem?_append_right (by omega),h,Nat.sub_self];rfl
theorem ny {α:Type} {A:List α} {x y:α} {l:List α} {i:Nat} (h:A.length=i):(A++x::l).set i y=A++y::l:=by
 rw[List.set_append_right _ _ (by omega),h,Nat.sub_self];rfl
theorem IP (k:Nat->Nat->Bool) (R:List (List Int)):(R.map mO).map (gF k)=R.map mO:=by
 rw[List.map_map];exact List.map_congr_left fun r _=>by simp[gF,mO,xr]
theorem Ac (d i c:Nat):(gk d (ag i c)).map (List.map (bA fun x y=>x==d&&y==i+1))=gk d (ag i c):=by
 apply List.ext_getElem?;intro k;rw[aA];by_cases h:k<i
 ·rw[bZ d c h];have:k≠i:=by omega
  simp[bA,this]
 rw[au (by rw[ch,az];omega)];rfl
def KF (d n c:Nat) (f:FF) (i:Nat):List OObj:=⟨61,1,gk d (ag i c)++ag (n-i) oG⟩::(bx i c f).map mO
def OQ (d n c:Nat) (f:FF) (i j:Nat):List OObj:=⟨61,1,gk d (ag i c)++[.sl d (i+1) 0 (j+1)]::ag (n-i-1) oG⟩::((bx i c f).map mO++[mO (bT (j+1) (f i))])
def PN (d n c:Nat) (f:FF) (i:Nat):Nat->List OObj
 |0=>KF d n c f i
 |j+1=>OQ d n c f i j
theorem tD (i c:Nat) (f:FF):bx (i+1) c f=bx i c f++[bT c (f i)]:=by simp[bx,List.range_succ]
theorem qB (j:Nat) (g:Nat->Int):bT (j+1) g=bT j g++[g j]:=by simp[bT,List.range_succ]
theorem NI {d n c i:Nat} (f:FF) (hc:1<=c) (hi:i<n):PN d n c f i c=KF d n c f (i+1):=by
 obtain⟨j,rfl⟩: ∃j,c=j+1:=⟨c-1,by omega⟩;show OQ d n (j+1) f i j=_;unfold OQ KF;rw[tD,List.replicate_succ' (n:=i),mS,az];simp[Nat.sub_sub]
theorem NH (d n c:Nat) (f:FF):KF d n c f n=iv d n c f:=by
 unfold KF;simp
theorem KG {d n c i:Nat} (f:FF) (hi:i<n):KF d n c f i=⟨61,1,gk d (ag i c)++oG::ag (n-i-1) oG⟩::(bx i c f).map mO:=by
 unfold KF;rw[show n-i=n-i-1+1 by omega,List.replicate_succ];rfl
theorem F9 (n c:Nat) (f:FF) (hn:n<=17) (hc1:1<=c) (hc:c<=17) (hf: ∀i j,i<n->j<c->Bg (f i j)):
  CallC Tryz.prog 24 [bJ (bx n c f)] ⟨iv 0 n c f,.one (.sl 0 0 0 n)⟩:=by
 have hml:=bi n c f;refine aJ Tryz.func24 rfl (by kernel_rfl) ?_;rw[Tryz.ntmps24];refine aF fun _ K=>?_;simp only[kd,bJ,ag];apply K
 refine aF fun _ K=>?_;simp(disch:=omega) only[kd,aa,hml];apply K
 refine aH (aF fun _ K=>?_);simp only[kd,aa,hml];apply K;refine aZ (G:=kK n) (fun g=>⟨(bJ (bx n c f)::jk::.raw (.slice none 0 0)::.one (.sl 9 0 0 n)::j4 (jk::jk::jk::rN n::rN g.i::j16 (j4 (j4 (jk::[]))))),Hm [(9,KF 9 n c f g.i)]⟩) (fun g=>n-g.i) ⟨0,by omega⟩ ?_ ?_
 ·refine aG ⟨?_,trivial⟩ ?_
  ·show[_]=_;simp[KF,gk,bx]
  simp[wk]
 rintro⟨i,hi⟩;simp only;by_cases hm:i<n
 ·have hrow:=bD c f hm;have hmi:=bi i c f;have hsl:(gk 9 (ag i c)).length=i:=by rw[ch,az]
  have hrl:((bx i c f).map mO).length=i:=by rw[List.length_map,hmi]
  refine aF fun _ K=>?_;simp(disch:=omega) only[kd,bJ];apply K
  refine bM rfl ?_;refine aH (aM ?_);refine aF fun _ K=>?_;simp only[kd];apply K
  refine aF fun _ K=>?_;simp(disch:=omega) only[kd,aa,hrow,fR,bE];apply K
  refine aZ (G:=kK c) (fun g=>⟨(bJ (bx n c f)::jk::.raw (.slice none 0 0)::.one (.sl 9 0 0 n)::rN i::j4 (jk::jk::rN n::rN i::j4 (jk::.one (.p (.sl (ls fZ (bT c (f i)))))::rN c::rN g.i::j16 (jk::[])))),Hm [(9,PN 9 n c f i g.i)]⟩) (fun g=>c-g.i) ⟨0,by omega⟩ ?_ ?_
  ·refine aG ⟨rfl,trivial⟩ ?_;simp[wk]
  rintro⟨j,hj⟩;simp only;by_cases hm2:j<c
  ·have hent:=aY (f i) hm2;have hN:=H9 (f i j) (hf i j hm hm2);cases j with
   |zero=>
    rw[PN,KG f hm];refine aF fun _ K=>?_;simp(disch:=omega) only[kd,bJ];apply K
    refine bM rfl ?_;refine aH (aM ?_);refine aF fun _ K=>?_;simp(disch:=omega) only[kd,aa,hent,fZ,ae];apply K
    refine dT bj [⟨7,_,_,_,hN⟩] [] (by kernel_rfl) fun _ K=>?_;simp(disch:=omega) only[kd,tZ,aa,ae,nw hsl,Nat.reduceMul,aj,ny hsl,hmi,ah];apply K
    show bu _ _ _ _;refine aN fun _ K=>?_;simp(disch:=omega) only[kd,aT];apply K
    refine⟨⟨1,by omega⟩,by simp only;omega,aG ⟨?_,trivial⟩ ?_⟩
    ·rfl
    simp[wk]
   |succ j=>
    have h01:(0==i+1)=false:=by simp
    rw[PN,OQ];refine aF fun _ K=>?_;simp(disch:=omega) only[kd,bJ];apply K
    refine bM rfl ?_;refine aH (aM ?_);refine aF fun _ K=>?_;simp(disch:=omega) only[kd,aa,hent,fZ,ae];apply K
    refine dT bj [⟨7,_,_,_,hN⟩] [] (by kernel_rfl) fun _ K=>?_;simp(disch:=omega) only[kd,tZ,aa,mO,ae,nw hsl,Nat.reduceMul,aj,nw hrl,bE,List.map_append,Ac,List.map_replicate,IP,tz,ny hrl,h01,ah,ny hsl,reduceCtorEq,List.length_append,hrl];apply K
    show bu _ _ _ _;refine aN fun _ K=>?_;simp(disch:=omega) only[kd,aT];apply K
    refine⟨⟨j+1+1,by omega⟩,by simp only;omega,aG ⟨?_,trivial⟩ ?_⟩
    ·show _=OQ 9 n c f i (j+1);rw[OQ,mO,qB (j+1)];rfl
    simp[wk]
  have hjc:j=c:=by omega
  subst hjc;refine aF fun _ K=>?_;simp(disch:=omega) only[kd,bJ];apply K
  refine bV rfl ?_;show bu _ _ _ _;rw[NI f hc1 hm];refine aN fun _ K=>?_;simp(disch:=omega) only[kd,aT];apply K
  refine⟨⟨i+1,by omega⟩,by simp only;omega,aG ⟨rfl,trivial⟩ ?_⟩;simp[wk]
 have hin:i=n:=by omega
 subst hin;refine aF fun _ K=>?_;simp(disch:=omega) only[kd,bJ];apply K
 refine bV rfl ?_;show bu _ _ _ _;rw[NH];refine aF fun _ K=>?_;simp only[kd];apply K
 refine aK ⟨.inr rfl,_,cj.refl _,?_⟩;refine⟨.one (.sl 9 0 0 i),9,?_,rfl,?_,rfl⟩
 ·simp(disch:=omega) only[kd,Tryz.results24]
 exact(fQ 9 0 _ _ _).symm
theorem mY {P:Program} {c z:Code} {Q:Exit->AS->Prop} {s S:AS} (h1:bu P c (lV (fun s'=>cj s' S) Q) s) (h2:bu P z Q S):bu P c (lV (bu P z Q) Q) s:=h1.mono fun e s' h=>by
 cases e with
 |normal=>exact bu.weak h h2
 |_=>exact h
theorem Sz.mul {a b:Int} {k l:Nat} (ha:Sz a k) (hb:Sz b l):Sz (a*b) (k+l):=by
 unfold Sz at*;rw[Int.natAbs_mul,Nat.pow_add];exact Nat.mul_lt_mul'' ha hb
theorem Sz.sub {a b:Int} {k:Nat} (ha:Sz a k) (hb:Sz b k):Sz (a-b) (k+1):=by
 unfold Sz at*
 have:=Int.natAbs_sub_le a b;rw[Nat.pow_succ];generalize 4294967296^k=p at*
 omega
theorem Sz.add {a b:Int} {k:Nat} (ha:Sz a k) (hb:Sz b k):Sz (a+b) (k+1):=by
 unfold Sz at*
 have:=Int.natAbs_add_le a b;rw[Nat.pow_succ];generalize 4294967296^k=p at*
 omega
theorem Sz.ediv {a:Int} {k:Nat} (ha:Sz a k) (b:Int):Sz (a/b) k:=ha.le (Int.natAbs_ediv_le_natAbs a b)
theorem Iq {f:FF} {n k:Nat}: ∀m p,n-p=m->piv f n k p<n->p<=piv f n k p/\f (piv f n k p) k≠0
 |0,p,hm,h=>by rw[rP (by omega)]at h;omega
 |m+1,p,hm,h=>by
  by_cases h0:f p k=0
  ·rw[xI (by omega) h0]at h⊢;have:=Iq m (p+1) (by omega) h;exact⟨by omega,this.2⟩
  rw[xH (by omega) h0]at h⊢;exact⟨by omega,h0⟩
theorem BU {f:FF} {n k:Nat}: ∀m p,n-p=m->piv f n k p<=n
 |0,p,hm=>by rw[rP (by omega)];omega
 |m+1,p,hm=>by
  by_cases h0:f p k=0
  ·rw[xI (by omega) h0];exact BU m (p+1) (by omega)
  rw[xH (by omega) h0];omega
def fz (k:Nat) (last:Int) (g:FF) (i j:Nat):Nat->Nat->Int:=fun a b=>if k<a/\k<b/\(a<i\/(a=i/\b<j))then(g k k*g a b-g a k*g k b)/last else g a b
theorem K9 {k i j:Nat} (last:Int) (g:FF) (hi:k<i) (hj:k<j) (a b:Nat):upd (fz k last g i j) i j ((g k k*g i j-g i k*g k j)/last) a b=fz k last g i (j+1) a b:=by
 unfold upd fz;by_cases h1:a=i
 ·subst h1;by_cases h2:b=j
  ·subst h2;simp[hi,hj]
  have:b<j+1↔b<j:=by omega
  simp[h2,this]
 simp[h1]
theorem Oa {k n:Nat} (last:Int) (g:FF) (i a b:Nat) (hb:b<n):fz k last g i n a b=fz k last g (i+1) (k+1) a b:=by
 unfold fz;have:(k<a/\k<b/\(a<i\/a=i/\b<n))↔(k<a/\k<b/\(a<i+1\/a=i+1/\b<k+1)):=by omega
 simp only[this]
theorem La (k:Nat) (last:Int) (g:FF):fz k last g (k+1) (k+1)=g:=by
 funext a b;unfold fz;rw[if_neg (by omega)]
theorem N9 {k n:Nat} (last:Int) (g:FF) (a b:Nat) (ha:a<n):fz k last g n (k+1) a b=MP k last g a b:=by
 unfold fz MP;have:(k<a/\k<b/\(a<n\/a=n/\b<k+1))↔(k<a/\k<b):=by omega
 simp only[this]
theorem pq {k i j a b:Nat} (last:Int) (g:FF) (h: ¬(k<a/\k<b/\(a<i\/(a=i/\b<j)))):fz k last g i j a b=g a b:=by
 unfold fz;rw[if_neg h]
theorem Dy {d n p k:Nat} (g:FF) (hp:p<n) (hk:k<n) (hne:k≠p) (r:Nat):(iv d n n (swp p k g))[r]?=
  (((⟨61,1,((gk d (ag n n)).set p [.sl d (k+1) 0 n]).set k [.sl d (p+1) 0 n]⟩::(bx n n g).map mO:List OObj))[sw (p+1) (k+1) r]?).map (uP d (p+1) (k+1)):=by
 cases r with
 |zero=>
  rw[show sw (p+1) (k+1) 0=0 by simp[sw]];simp only[List.getElem?_cons_zero,Option.map_some,uP]
  congr 2
  apply List.ext_getElem?;intro i;rw[aA,List.getElem?_set,List.getElem?_set,List.length_set,ch,az];by_cases hi:i<n
  ·rw[bZ d n hi];by_cases h1:k=i
   ·subst h1;simp[hi,jA,ot,sw]
   by_cases h2:p=i
   ·subst h2;simp[h1,hi,jA,ot,sw]
   have h1': ¬i=k:=fun e=>h1 e.symm
   have h2': ¬i=p:=fun e=>h2 e.symm
   simp[h1,h2,h1',h2',jA,ot,sw]
  have h1: ¬k=i:=by omega
  have h2: ¬p=i:=by omega
  rw[if_neg h1,if_neg h2,au (by rw[ch,az];omega)];rfl
 |succ r=>
  have hsw:sw (p+1) (k+1) (r+1)=sw p k r+1:=by
   unfold sw;by_cases h1:r=p
   ·simp[h1]
   by_cases h2:r=k
   ·simp[h1,h2,hne]
   simp[h1,h2]
  have hO: ∀l:List Int,uP d (p+1) (k+1) (mO l)=mO l:=fun l=>by
   simp only[uP,mO,lc,List.map_map]
   congr 1
  rw[hsw,List.getElem?_cons_succ,List.getElem?_cons_succ,aA,aA];by_cases hr:r<n
  ·have hs:sw p k r<n:=by unfold sw;split<;>(try split)<;>omega
   rw[bD _ _ hr,bD _ _ hs];simp only[Option.map_some,hO]
   congr 3
   unfold swp sw;by_cases h1:r=p
   ·simp[h1]
   by_cases h2:r=k
   ·simp[h1,h2,hne]
   simp[h1,h2]
  have hs: ¬sw p k r<n:=by unfold sw;rw[if_neg (by omega),if_neg (by omega)];exact hr
  rw[au (by rw[bi];omega),au (by rw[bi];omega)];rfl
structure QA (n:Nat) (f:FF) where
 k:Nat
 g:Nat->Nat->Int
 last:Int
 neg:Bool
 b:Nat
 hk:k<=n
 hv:detG n k g last neg=detF n f
 hl:last≠0
 hb:b+1<=1025*2^k
 sg: ∀i j,i<n->j<n->Sz (g i j) b
 sl:Sz last b
structure QK (n k:Nat) (g:FF) where
 p:Nat
 hkp:k<=p
 hp:p<=n
 hv:piv g n k p=piv g n k k
structure Qs (n k:Nat) where
 i:Nat
 hk:k+1<=i
 hi:i<=n
abbrev uO (v:Int):List OObj:=yg (decide (v<0)) (aR v.natAbs)
theorem xV:sg 0=0:=rfl
theorem I3 {z:Int} (h:z≠0):sg z≠0:=by unfold sg;split<;>simp[h]
theorem kB {k:Nat} (h:k<=16):2^k<=65536:=Nat.pow_le_pow_right (n:=2) (by omega) h
theorem fF (n:Nat) (f:FF) (hn1:1<=n) (hn:n<=16) (hf: ∀i j,i<n->j<n->Sz (f i j) 1024):
  CallC Tryz.prog 9 [bJ (bx n n f)] ⟨[],tZ (detF n f)⟩:=by
 have hC:=F9 n n f (by omega) hn1 (by omega) (fun i j hi hj=>(hf i j hi hj).mono (by omega));have hS:=ee 1 (by omega) (by omega);refine aJ Tryz.func9 rfl (by kernel_rfl) ?_;rw[Tryz.ntmps9];refine aF fun _ K=>?_;simp(disch:=omega) only[kd,bJ,ag,aa];apply K
 refine aI [⟨1,_,_,_,hC⟩] [] fun _ K=>?_;simp only[kd,bJ,aa,ae];apply K
 refine aF fun _ K=>?_;simp only[kd,aa];apply K
 refine aI [⟨0,_,_,_,hS⟩] [] fun _ K=>?_;simp(disch:=omega) only[kd,tZ,aa,ae];apply K
 refine aH (aF fun _ K=>?_);simp only[kd];apply K;refine aZ (G:=QA n f) (fun g=>⟨(jk::jk::.one (.ptr 2 0 0 0)::.one (.sl 12 0 0 n)::rN n::.one (.ptr 5 0 0 0)::.raw (.bool g.neg)::rN g.k::j16 (j16 (j16 (j16 (j16 (j16 (j16 (j4 (jk::[]))))))))),Hm [(2,w7),(5,uO g.last),(12,iv 12 n n g.g)]⟩) (fun g=>n-g.k) ⟨0,f,1,false,1024,by omega,rfl,by omega,by omega,hf,oN (by omega)⟩ ?_ ?_
 ·refine aG ⟨rfl,rfl,?_,trivial⟩ ?_
  ·exact fQ 0 12 n n f
  simp[wk]
 rintro⟨k,g,last,neg,b,hk,hv,hl,hb,sgz,slz⟩;simp only;by_cases hm:k<n
 ·have h2k:=kB (k:=k) (by omega);have hbb:b<=67174400:=by omega
  have hvk:detG n k g last neg=if piv g n k k=n then 0 else detG n (k+1) (MP k last (OT n k g)) (OT n k g k k) (neg !=decide (k<piv g n k k)):=by rw[detG,if_pos hm]
  refine aH (aF fun _ K=>?_);simp(disch:=omega) only[kd,aa];apply K;refine bf rfl (aO ?_);refine aH (aM ?_);refine aF fun _ K=>?_;simp only[kd];apply K
  refine aH (mY (S:=⟨(jk::jk::.one (.ptr 2 0 0 0)::.one (.sl 12 0 0 n)::rN n::.one (.ptr 5 0 0 0)::.raw (.bool neg)::rN k::.raw (.int .i64 ((piv g n k k:Nat):Int))::j16 (j16 (j16 (j16 (j16 (j16 (j16 (j4 ([]))))))))),Hm [(2,w7),(5,uO last),(12,iv 12 n n g)]⟩) ?_ ?_)
  ·refine aZ (G:=QK n k g) (fun q=>⟨(jk::jk::.one (.ptr 2 0 0 0)::.one (.sl 12 0 0 n)::rN n::.one (.ptr 5 0 0 0)::.raw (.bool neg)::rN k::rN q.p::j16 (j16 (j16 (j16 (j16 (j16 (j16 (j4 ([]))))))))),Hm [(2,w7),(5,uO last),(12,iv 12 n n g)]⟩) (fun q=>n-q.p) ⟨k,by omega,by omega,rfl⟩ ?_ ?_
   ·refine aG ⟨rfl,rfl,rfl,trivial⟩ ?_;simp[wk]
   rintro⟨p,hkp,hp,hpv⟩;simp only;by_cases hpn:p<n
   ·have g1:=bZ (n:=n) (i:=p) 12 n hpn;have g2:=fV n g hpn;have g3:=aY (g p) hm;have hSg:=mQ (g p k) ((sgz p k hpn hm).mono (by omega));by_cases h0:g p k=0
    ·rw[h0]at hSg g3;refine aH (aI [⟨11,_,_,_,hSg⟩] [] fun _ K=>?_);simp(disch:=omega) only[kd,tZ,xV,aa,ae,g1,g2,fZ,g3];apply K;refine bf rfl (aO ?_);refine aM ?_;refine aN fun _ K=>?_;simp(disch:=omega) only[kd,aa,aT];apply K
     refine⟨⟨p+1,by omega,by omega,?_⟩,by simp only;omega,aG ⟨rfl,rfl,rfl,trivial⟩ ?_⟩
     ·rw[<- hpv,xI hpn h0]
     simp[wk]
    have hs0:=I3 h0;refine aH (aI [⟨11,_,_,_,hSg⟩] [] fun _ K=>?_);simp(disch:=omega) only[kd,tZ,aa,ae,g1,g2,fZ,g3];apply K;refine aU rfl (bK ?_);show cj _ _;have hpe:piv g n k k=p:=by rw[<- hpv,xH hpn h0]
    refine aG ⟨rfl,rfl,rfl,trivial⟩ ?_;simp[wk,hpe]
   have hpe:piv g n k k=p:=by rw[<- hpv,rP hpn];omega
   refine aH (aF fun _ K=>?_);simp(disch:=omega) only[kd,aa];apply K;refine aU rfl (bK ?_);show cj _ _;refine aG ⟨rfl,rfl,rfl,trivial⟩ ?_;simp[wk,hpe]
  have hpl:=BU (f:=g) (n:=n) (k:=k) (n-k) k rfl;have hpn':=Iq (f:=g) (n:=n) (k:=k) (n-k) k rfl;generalize hpp:piv g n k k=p at*
  by_cases hpn:p=n
  ·rw[if_pos hpn]at hvk;refine aH (aF fun _ K=>?_);simp(disch:=omega) only[kd,aa];apply K;refine bf rfl ?_;refine aF fun _ K=>?_;simp(disch:=omega) only[kd,ae,aa];apply K
   refine bu.weak (gy 2) ?_;refine aK ⟨.inr rfl,aL rfl ?_ rfl⟩;rw[<- hv,hvk];simp(disch:=omega) only[kd,Tryz.results9,zH,ae,zO,Ax,CC,aa,tZ];simp[cw,ls]
  rw[if_neg hpn]at hvk;obtain⟨hkp,hpk0⟩:=hpn' (by omega);refine aH (aF fun _ K=>?_);simp(disch:=omega) only[kd,aa];apply K;refine aU rfl (aO ?_);show bu _ _ _ _;refine aH (aF fun _ K=>?_);simp only[kd,aa];apply K;refine mY (S:=⟨(jk::jk::.one (.ptr 2 0 0 0)::.one (.sl 12 0 0 n)::rN n::.one (.ptr 5 0 0 0)::.raw (.bool (neg !=decide (k<p)))::rN k::j16 (j16 (j16 (j16 (j16 (j16 (j16 (j4 (jk::[]))))))))),Hm [(2,w7),(5,uO last),(12,iv 12 n n (swp p k g))]⟩) ?_ ?_
  ·by_cases hlt:k<p
   ·have g1:=bZ (n:=n) (i:=p) 12 n (by omega);have g2:=bZ (n:=n) (i:=k) 12 n (by omega);refine bU rfl (fun _=>?_) (fun h=>by simp at h<;>omega);have g4:((gk 12 (ag n n)).set p [.sl 12 (k+1) 0 n])[k]?=some [.sl 12 (k+1) 0 n]:=by
     rw[List.getElem?_set_ne (by omega),g2]
    refine dF bj (by kernel_rfl) fun _ K=>?_;simp(disch:=omega) only[kd,aa,ae,g2,g1,g4,aj,reduceCtorEq];apply K
    refine aN fun _ K=>?_;simp only[kd,aa];apply K
    refine(rD 12 (p+1) (k+1) (iv 12 n n (swp p k g)) (Dy g (by omega) hm (by omega))).trans (aG ⟨rfl,rfl,rfl,trivial⟩ ?_);simp[wk,FI,jA,ot,sw,hlt]
   have hpk:p=k:=by omega
   subst hpk;refine bU rfl (fun h=>by simp at h<;>omega) (fun _=>aO ?_);show cj _ _;rw[Ah];refine aG ⟨rfl,rfl,rfl,trivial⟩ ?_;simp[wk]
  rw[OT,hpp]at hvk;have hkk:swp p k g k k≠0:=by
   unfold swp;by_cases h:k=p
   ·subst h;rw[if_pos rfl];exact hpk0
   rw[if_neg h,if_pos rfl];exact hpk0
  have hsz: ∀i j,i<n->j<n->Sz (swp p k g i j) b:=fun i j hi hj=>by
   unfold swp;split
   ·exact sgz k j hm hj
   split
   ·exact sgz p j (by omega) hj
   exact sgz i j hi hj
  generalize swp p k g=g' at*
  generalize(neg !=decide (k<p))=neg' at*
  refine aH (aF fun _ K=>?_);simp(disch:=omega) only[kd,aa,aT];apply K;refine aZ (G:=Qs n k) (fun q=>⟨(jk::jk::.one (.ptr 2 0 0 0)::.one (.sl 12 0 0 n)::rN n::.one (.ptr 5 0 0 0)::.raw (.bool neg')::rN k::jk::rN q.i::j16 (j16 (j16 (j16 (j16 (j16 (j16 (jk::jk::jk::[])))))))),Hm [(2,w7),(5,uO last),(12,iv 12 n n (fz k last g' q.i (k+1)))]⟩) (fun q=>n-q.i) ⟨k+1,by omega,by omega⟩ ?_ ?_
  ·rw[La];refine aG ⟨rfl,rfl,rfl,trivial⟩ ?_;simp[wk]
  rintro⟨i,hki,hin⟩;simp only;by_cases hi:i<n
  ·refine aH (aF fun _ K=>?_);simp(disch:=omega) only[kd,aa];apply K;refine bf rfl (aO ?_);refine aH (aM ?_);refine aF fun _ K=>?_;simp(disch:=omega) only[kd,aa,aT];apply K
   refine aZ (G:=Qs n k) (fun q=>⟨(jk::jk::.one (.ptr 2 0 0 0)::.one (.sl 12 0 0 n)::rN n::.one (.ptr 5 0 0 0)::.raw (.bool neg')::rN k::jk::rN i::rN q.i::j16 (j16 (j16 (j16 (j16 (j16 (j16 (jk::jk::[])))))))),Hm [(2,w7),(5,uO last),(12,iv 12 n n (fz k last g' i q.i))]⟩) (fun q=>n-q.i) ⟨k+1,by omega,by omega⟩ ?_ ?_
   ·refine aG ⟨rfl,rfl,rfl,trivial⟩ ?_;simp[wk]
   rintro⟨j,hkj,hjn⟩;simp only;by_cases hj:j<n
   ·have a1:=bZ (n:=n) (i:=i) 12 n hi;have a2:=bZ (n:=n) (i:=k) 12 n hm;have a3:=fV n (fz k last g' i j) hi;have a4:=fV n (fz k last g' i j) hm;have a5:(bT n (fz k last g' i j k))[k]?=some (g' k k):=by rw[aY _ hm,pq _ _ (by omega)]
    have a6:(bT n (fz k last g' i j i))[j]?=some (g' i j):=by rw[aY _ hj,pq _ _ (by omega)]
    have a7:(bT n (fz k last g' i j i))[k]?=some (g' i k):=by rw[aY _ hm,pq _ _ (by omega)]
    have a8:(bT n (fz k last g' i j k))[j]?=some (g' k j):=by rw[aY _ hj,pq _ _ (by omega)]
    have z1:=hsz k k hm hm;have z2:=hsz i j hi hj;have z3:=hsz i k hi hm;have z4:=hsz k j hm hj;have c1:=ja (g' k k) (g' i j) (z1.mono (by omega)) (z2.mono (by omega));have c2:=ja (g' i k) (g' k j) (z3.mono (by omega)) (z4.mono (by omega));have c3:=MC (g' k k*g' i j) (g' i k*g' k j) ((z1.mul z2).mono (by omega)) ((z3.mul z4).mono (by omega));have c4:=CH (g' k k*g' i j-g' i k*g' k j) last hl (((z1.mul z2).sub (z3.mul z4)).mono (by omega)) (slz.mono (by omega));refine aH (aF fun _ K=>?_);simp(disch:=omega) only[kd,aa];apply K;refine bf rfl (aO ?_);refine aH (aM ?_);refine dT bj [⟨19,_,_,_,c1⟩,⟨34,_,_,_,c2⟩,⟨35,_,_,_,c3⟩,⟨37,_,_,_,c4⟩] [] (by kernel_rfl) fun _ K=>?_;simp(disch:=omega) only[kd,tZ,aa,ae,a1,a2,a4,fZ,a5,a3,a6,a7,a8,ah,lE];apply K
    show bu _ _ _ _;refine aN fun _ K=>?_;simp(disch:=omega) only[kd,aa,aT];apply K
    refine⟨⟨j+1,by omega,by omega⟩,by simp only;omega,aG ⟨rfl,rfl,?_,trivial⟩ ?_⟩
    ·show _::_=_::_;rw[cU fun a b _ _=>K9 last g' hki hkj a b]
    simp[wk]
   have hjn':j=n:=by omega
   subst hjn';refine aH (aF fun _ K=>?_);simp(disch:=omega) only[kd,aa];apply K;refine aU rfl (bK ?_);show bu _ _ _ _;refine aN fun _ K=>?_;simp(disch:=omega) only[kd,aa,aT];apply K
   refine⟨⟨i+1,by omega,by omega⟩,by simp only;omega,aG ⟨rfl,rfl,?_,trivial⟩ ?_⟩
   ·show _::_=_::_;rw[cU fun a b _ hb=>Oa last g' i a b hb]
   simp[wk]
  have hin':i=n:=by omega
  subst hin';have a2:=bZ (n:=i) (i:=k) 12 i hm;have a4:=fV i (fz k last g' i (k+1)) hm;have a5:(bT i (fz k last g' i (k+1) k))[k]?=some (g' k k):=by rw[aY _ hm,pq _ _ (by omega)]
  refine aH (aF fun _ K=>?_);simp(disch:=omega) only[kd,aa];apply K;refine aU rfl (bK ?_);show bu _ _ _ _;refine aN fun _ K=>?_;simp(disch:=omega) only[kd,aa,ae,a2,a4,fZ,a5];apply K
  show bu _ _ _ _;refine aN fun _ K=>?_;simp(disch:=omega) only[kd,aa,aT];apply K
  refine⟨⟨k+1,MP k last g',g' k k,neg',2*b+1,by omega,by rw[<- hvk,hv],hkk,by rw[Nat.pow_succ];omega,fun x y hx hy=>?_,(hsz k k hm hm).mono (by omega)⟩,by simp only;omega,aG ⟨rfl,rfl,?_,trivial⟩ ?_⟩
  ·unfold MP;split
   ·exact((((hsz k k hm hm).mul (hsz x y hx hy)).sub ((hsz x k hx hm).mul (hsz k y hm hy))).ediv last).mono (by omega)
   exact(hsz x y hx hy).mono (by omega)
  ·show _::_=_::_;rw[cU fun a b ha _=>N9 last g' a b ha]
  simp[wk]
 have hkn:k=n:=by omega
 subst hkn;rw[detG,if_neg hm]at hv;have h2k:=kB (k:=k) hn;have hN:=H8 last (slz.mono (by omega));refine aH (aF fun _ K=>?_);simp(disch:=omega) only[kd,aa];apply K;refine aU rfl (bK ?_);show bu _ _ _ _;refine aH (aF fun _ K=>?_);simp only[kd];apply K;cases neg with
 |true=>
  rw[if_pos rfl]at hv;refine bf rfl ?_;refine aI [⟨1,_,_,_,hN⟩] [] fun _ K=>?_;simp(disch:=omega) only[kd,tZ,aa,ae];apply K
  rw[<- hv]
  (refine aK ⟨.inr rfl,aL rfl ?_ rfl⟩;simp(disch:=omega) only[kd,Tryz.results9,ae,aa,tZ])
 |false=>
  rw[if_neg (by simp)]at hv;refine aU rfl (aO ?_);show bu _ _ _ _;refine aF fun _ K=>?_;simp(disch:=omega) only[kd,ae,aa];apply K
  rw[<- hv]
  (refine aK ⟨.inr rfl,aL rfl ?_ rfl⟩;simp(disch:=omega) only[kd,Tryz.results9,ae,aa,tZ])
end Go.Proofs.YtiollbhgpiiodaaGreatDoor
