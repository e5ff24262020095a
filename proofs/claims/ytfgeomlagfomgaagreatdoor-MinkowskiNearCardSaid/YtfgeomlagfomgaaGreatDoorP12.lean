/-
  Part 13 of a proof (walks and plain facts).
-/
import Derived.Test.YtfgeomlagfomgaaGreatDoorP11
set_option linter.all false
set_option maxRecDepth 100000
set_option maxHeartbeats 64000000
open Nat renaming reduceAdd → aa
open Nat renaming reduceEqDiff → ab
open List renaming replicate → ae
open Nat renaming reduceBEq → af
open Nat renaming reduceLeDiff → ah
open Int renaming reduceToNat → am
open List renaming getElem?_eq_none → aq
open List renaming length_replicate → ax
open List renaming getElem?_map → ay
namespace Go.Proofs.YtfgeomlagfomgaaGreatDoor
open Go.RowKit
theorem JE {P:Program} {p q t n:Nat} (h:jx P t=some n) (hn:n≠1): ∀x∈[(p,q,t)],jx P x.2.2≠some 1:=fun x hx=>by
 have:x=(p,q,t):=by simpa using hx
 subst this;rw[h];intro h';injection h' with h'
 exact hn h'
theorem Cj {s:AS} {p q t a r i j b r' i' j':Nat} (h1:s.tmps[p]?=some (.one (.ptr a r i j))) (h2:s.tmps[q]?=some (.one (.ptr b r' i' j'))) (hne:b≠a):yw [(p,q,t)] s:=fun x hx a2 r2 i2 j2 b2 r3 i3 j3 g1 g2=>by
 have:x=(p,q,t):=by simpa using hx
 subst this;simp only[h1]at g1;simp only[h2]at g2;injection g1 with g1;injection g1 with g1;injection g1 with g1
 injection g2 with g2;injection g2 with g2;injection g2 with g2
 subst g1 g2;exact hne
def tq (a b:Int):Int:=fB (!(decide (a<0)==decide (b<0))) (a.natAbs/b.natAbs)
def tr (a b:Int):Int:=fB (decide (a<0)) (a.natAbs%b.natAbs)
theorem JI (a b:Int):tr a b+b*tq a b=a:=by
 have h:=Nat.div_add_mod a.natAbs b.natAbs;have h':(b.natAbs:Int)*((a.natAbs/b.natAbs:Nat):Int)+((a.natAbs%b.natAbs:Nat):Int)=(a.natAbs:Int):=by
  have:=congrArg (Nat.cast (R:=Int)) h;simpa using this
 unfold tq tr fB;generalize a.natAbs/b.natAbs=q at*
 generalize a.natAbs%b.natAbs=r at*
 by_cases ha:a<0<;>by_cases hb:b<0
 ·rw[decide_eq_true ha,decide_eq_true hb];show -(r:Int)+b*(q:Int)=a;rw[show(b.natAbs:Int)= -b by omega,show(a.natAbs:Int)= -a by omega,Int.neg_mul]at h';omega
 ·rw[decide_eq_true ha,decide_eq_false hb];show -(r:Int)+b* -(q:Int)=a;rw[show(b.natAbs:Int)=b by omega,show(a.natAbs:Int)= -a by omega]at h';rw[Int.mul_neg];omega
 ·rw[decide_eq_false ha,decide_eq_true hb];show(r:Int)+b* -(q:Int)=a;rw[show(b.natAbs:Int)= -b by omega,show(a.natAbs:Int)=a by omega,Int.neg_mul]at h';rw[Int.mul_neg];omega
 rw[decide_eq_false ha,decide_eq_false hb];show(r:Int)+b*(q:Int)=a;rw[show(b.natAbs:Int)=b by omega,show(a.natAbs:Int)=a by omega]at h';omega
theorem JJ (a b:Int):(tr a b).natAbs=a.natAbs%b.natAbs:=mN _ _
theorem JH (a b:Int):(tq a b).natAbs=a.natAbs/b.natAbs:=mN _ _
theorem D9 {a b:Int} (hb:b≠0):(tr a b).natAbs<b.natAbs:=by rw[JJ];exact Nat.mod_lt _ (by omega)
theorem Ba {a b:Int} (hb:b≠0) (h:0<=tr a b):a/b=tq a b/\a%b=tr a b:=by
 have h1:=JI a b;have h2:=D9 (a:=a) hb;rcases Int.lt_or_gt_of_ne hb with hn|hp
 ·exact(Int.ediv_emod_unique' hn).2 ⟨h1,h,by omega⟩
 exact(Int.ediv_emod_unique hp).2 ⟨h1,h,by omega⟩
theorem Dj {a b:Int} (hb:b<0) (h:tr a b<0):a/b=tq a b+1/\a%b=tr a b+b.natAbs:=by
 have h1:=JI a b;have h2:=D9 (a:=a) (b:=b) (by omega);refine(Int.ediv_emod_unique' hb).2 ⟨?_,by omega,by omega⟩;rw[Int.mul_add,Int.mul_one];omega
theorem Dk {a b:Int} (hb:0<b) (h:tr a b<0):a/b=tq a b-1/\a%b=tr a b+b.natAbs:=by
 have h1:=JI a b;have h2:=D9 (a:=a) (b:=b) (by omega);refine(Int.ediv_emod_unique hb).2 ⟨?_,by omega,by omega⟩;rw[Int.mul_sub,Int.mul_one];omega
theorem Sz.le {x y:Int} {k:Nat} (h:Sz y k) (hx:x.natAbs<=y.natAbs):Sz x k:=Nat.lt_of_le_of_lt hx h
theorem oQ {k:Nat} (h:0<k):Sz 1 k:=by unfold Sz;exact Nat.one_lt_pow (by omega) (by decide)
theorem GN:Bh 1:=oQ (by omega)
theorem Ju {z:Int} (h:z<0):sg z= -1:=by simp[sg,h]
theorem wE {z:Int} (h:0<=z):0<=sg z:=by unfold sg;split<;>(try split)<;>omega
theorem yn (a b:Int) (hb0:b≠0) (ha:Bh a) (hb:Bh b):CallC Tryz.prog 100 [tZ a,tZ b] ⟨[],.tup [(true,cZ (a/b)),(true,cZ (a%b)),(false,[.p (.raw (.bool true))])]⟩:=by
 have la:=ha.len;have lb:=hb.len;have t1:=iN (aP a.natAbs) ha.bg.len;have t2:=iN (aP b.natAbs) hb.bg.len;rw[gK]at t1 t2;have hl0:(aP b.natAbs).length≠0:=fun h=>hb0 (by have:=fh.1 h;omega)
 have hd:=Hb a.natAbs b.natAbs (by omega) la lb;have bq:Bh (tq a b):=ha.le (by rw[JH];exact Nat.div_le_self _ _);have br:Bh (tr a b):=hb.le (Nat.le_of_lt (D9 hb0));have hm1:=jp (!(decide (a<0)==decide (b<0))) (aP (a.natAbs/b.natAbs)) (aW _) (by have:=bq.bg.len;rwa[JH]at this);have hm2:=jp (decide (a<0)) (aP (a.natAbs%b.natAbs)) (aW _) (by have:=br.bg.len;rwa[JJ]at this);rw[aN,show fB _ _=tq a b from rfl]at hm1;rw[aN,show fB _ _=tr a b from rfl]at hm2;have hs:=mO (tr a b) br.bg;have p0:= @Ba a b hb0;have p1:= @Dj a b;have p2:= @Dk a b;generalize tq a b=Q at*
 generalize tr a b=R at*
 by_cases hR:R<0
 ·have hm3:=jp false (aP b.natAbs) (aW _) (by omega);rw[aN,show fB false b.natAbs=((b.natAbs:Nat):Int)from rfl]at hm3;have hA:=vn R (b.natAbs:Int) br (by unfold Bh Sz;rw[Int.natAbs_natCast];exact hb);have hs2:=mO b hb.bg;have h1:=fW 1 (by omega) (by omega);rw[Ju hR]at hs;by_cases hbn:b<0
  ·obtain⟨e1,e2⟩:=p1 hbn hR;rw[e1,e2];rw[Ju hbn]at hs2;have hA2:=vn Q 1 bq GN;refine aI Tryz.func100 rfl (by kernel_rfl) ?_;rw[Tryz.ntmps100];refine aD fun _ K=>?_;simp(disch:=omega) only[kd,aa,tZ,ae,ab];apply K
   refine bu be [⟨2,_,_,_,t1⟩,⟨5,_,_,_,t2⟩] [] (by kernel_rfl) fun _ K=>?_;simp(disch:=omega) only[kd,bz,aa,ab,af];apply K
   refine aF (aD fun _ K=>?_);simp(disch:=omega) only[kd,aa];apply K;refine aQ rfl (aM ?_);show bo _ _ _ _;refine aG [⟨2,_,_,_,hd⟩] [] fun _ K=>?_;simp only[kd,bz,aa];apply K
   refine bu be [⟨6,_,_,_,hm1⟩,⟨10,_,_,_,hm2⟩] [] (by kernel_rfl) fun _ K=>?_;simp(disch:=omega) only[kd,bz,tZ,aa,ab,af];apply K
   refine bo.weak (aE (tm:=(jk::jk::.one (.ptr 2 0 0 0)::.one (.ptr 3 0 0 0)::.one (.ptr 4 0 0 0)::.one (.ptr 5 0 0 0)::.raw (.bool false)::jk::bz (aP b.natAbs)::jk::jk::.one (.ptr 11 0 0 0)::.one (.ptr 12 0 0 0)::j16 (j16 (j16 ([]))))) (l:=[(2,yi (decide (a<0)) (aP a.natAbs)),(3,yi true (aP b.natAbs)),(4,xf),(5,xf),(11,yi (decide (Q<0)) (aP Q.natAbs)),(12,yi true (aP R.natAbs))]) ⟨rfl,rfl,rfl,rfl,rfl,rfl,trivial⟩ (by simp[wk])) ?_;refine aF (aG [⟨1,_,_,_,hs⟩] [] fun _ K=>?_);simp(disch:=omega) only[kd,tZ,aa,bz,ab];apply K;refine aU rfl ?_;refine bu be [⟨2,_,_,_,hm3⟩,⟨3,_,_,_,hA⟩] [] (by kernel_rfl) fun _ K=>?_;simp(disch:=omega) only[kd,bz,tZ,aa,ab,af];apply K
   refine aF (aG [⟨1,_,_,_,hs2⟩] [] fun _ K=>?_);simp(disch:=omega) only[kd,tZ,aa,ab];apply K;refine aU rfl ?_;refine sH [(12,4,42)] be [⟨1,_,_,_,h1⟩,⟨2,_,_,_,hA2⟩] [] (by kernel_rfl) (JE (n:=2) (by simp only[sf,pY,nW,lR,se,pX,lS,uS,p7,lQ,ye,sc,pZ]) (by decide)) (Cj rfl rfl (by decide)) fun _ K=>?_;simp(disch:=omega) only[kd,tZ,aa,ab,af];apply K
   (refine aH ⟨.inr rfl,aJ rfl ?_ rfl⟩;simp(disch:=omega) only[kd,Tryz.results100,ab,aa,cZ])
  obtain⟨e1,e2⟩:=p2 (by omega) hR;rw[e1,e2];have hs3:=wE (z:=b) (by omega);have hA2:=MY Q 1 bq GN;refine aI Tryz.func100 rfl (by kernel_rfl) ?_;rw[Tryz.ntmps100];refine aD fun _ K=>?_;simp(disch:=omega) only[kd,aa,tZ,ae,ab];apply K
  refine bu be [⟨2,_,_,_,t1⟩,⟨5,_,_,_,t2⟩] [] (by kernel_rfl) fun _ K=>?_;simp(disch:=omega) only[kd,bz,aa,ab,af];apply K
  refine aF (aD fun _ K=>?_);simp(disch:=omega) only[kd,aa];apply K;refine aQ rfl (aM ?_);show bo _ _ _ _;refine aG [⟨2,_,_,_,hd⟩] [] fun _ K=>?_;simp only[kd,bz,aa];apply K
  refine bu be [⟨6,_,_,_,hm1⟩,⟨10,_,_,_,hm2⟩] [] (by kernel_rfl) fun _ K=>?_;simp(disch:=omega) only[kd,bz,tZ,aa,ab,af];apply K
  refine bo.weak (aE (tm:=(jk::jk::.one (.ptr 2 0 0 0)::.one (.ptr 3 0 0 0)::.one (.ptr 4 0 0 0)::.one (.ptr 5 0 0 0)::.raw (.bool false)::jk::bz (aP b.natAbs)::jk::jk::.one (.ptr 11 0 0 0)::.one (.ptr 12 0 0 0)::j16 (j16 (j16 ([]))))) (l:=[(2,yi (decide (a<0)) (aP a.natAbs)),(3,yi false (aP b.natAbs)),(4,xf),(5,xf),(11,yi (decide (Q<0)) (aP Q.natAbs)),(12,yi true (aP R.natAbs))]) ⟨rfl,rfl,rfl,rfl,rfl,rfl,trivial⟩ (by simp[wk])) ?_;refine aF (aG [⟨1,_,_,_,hs⟩] [] fun _ K=>?_);simp(disch:=omega) only[kd,tZ,aa,bz,ab];apply K;refine aU rfl ?_;refine bu be [⟨2,_,_,_,hm3⟩,⟨3,_,_,_,hA⟩] [] (by kernel_rfl) fun _ K=>?_;simp(disch:=omega) only[kd,bz,tZ,aa,ab,af];apply K
  refine aF (aG [⟨1,_,_,_,hs2⟩] [] fun _ K=>?_);simp(disch:=omega) only[kd,tZ,aa,ab];apply K;refine aQ rfl (aM ?_);show bo _ _ _ _;refine sH [(12,4,42)] be [⟨1,_,_,_,h1⟩,⟨2,_,_,_,hA2⟩] [] (by kernel_rfl) (JE (n:=2) (by simp only[sf,pY,nW,lR,se,pX,lS,uS,p7,lQ,ye,sc,pZ]) (by decide)) (Cj rfl rfl (by decide)) fun _ K=>?_;simp(disch:=omega) only[kd,tZ,aa,ab,af];apply K
  (refine aH ⟨.inr rfl,aJ rfl ?_ rfl⟩;simp(disch:=omega) only[kd,Tryz.results100,ab,aa,cZ])
 obtain⟨e1,e2⟩:=p0 (by omega);rw[e1,e2];have hs3:=wE (z:=R) (by omega);refine aI Tryz.func100 rfl (by kernel_rfl) ?_;rw[Tryz.ntmps100];refine aD fun _ K=>?_;simp(disch:=omega) only[kd,aa,tZ,ae,ab];apply K
 refine bu be [⟨2,_,_,_,t1⟩,⟨5,_,_,_,t2⟩] [] (by kernel_rfl) fun _ K=>?_;simp(disch:=omega) only[kd,bz,aa,ab,af];apply K
 refine aF (aD fun _ K=>?_);simp(disch:=omega) only[kd,aa];apply K;refine aQ rfl (aM ?_);show bo _ _ _ _;refine aG [⟨2,_,_,_,hd⟩] [] fun _ K=>?_;simp only[kd,bz,aa];apply K
 refine bu be [⟨6,_,_,_,hm1⟩,⟨10,_,_,_,hm2⟩] [] (by kernel_rfl) fun _ K=>?_;simp(disch:=omega) only[kd,bz,tZ,aa,ab,af];apply K
 refine bo.weak (aE (tm:=(jk::jk::.one (.ptr 2 0 0 0)::.one (.ptr 3 0 0 0)::.one (.ptr 4 0 0 0)::.one (.ptr 5 0 0 0)::.raw (.bool false)::jk::bz (aP b.natAbs)::jk::jk::.one (.ptr 11 0 0 0)::.one (.ptr 12 0 0 0)::j16 (j16 (j16 ([]))))) (l:=[(2,yi (decide (a<0)) (aP a.natAbs)),(3,yi (decide (b<0)) (aP b.natAbs)),(4,xf),(5,xf),(11,yi (decide (Q<0)) (aP Q.natAbs)),(12,yi false (aP R.natAbs))]) ⟨rfl,rfl,rfl,rfl,rfl,rfl,trivial⟩ (by simp[wk])) ?_;refine aF (aG [⟨1,_,_,_,hs⟩] [] fun _ K=>?_);simp(disch:=omega) only[kd,tZ,aa,bz,ab];apply K;refine aQ rfl (aM ?_);show bo _ _ _ _;refine sH [(12,4,42)] be [] [] (by kernel_rfl) (JE (n:=2) (by simp only[sf,pY,nW,lR,se,pX,lS,uS,p7,lQ,ye,sc,pZ]) (by decide)) (Cj rfl rfl (by decide)) fun _ K=>?_;simp(disch:=omega) only[kd,aa,ab];apply K
 (refine aH ⟨.inr rfl,aJ rfl ?_ rfl⟩;simp(disch:=omega) only[kd,Tryz.results100,ab,aa,cZ])
theorem CN (a b:Int) (hb0:b≠0) (ha:Bh a) (hb:Bh b):CallC Tryz.prog 56 [tZ a,tZ b] ⟨[],tZ (a/b)⟩:=by
 have h1:=yn a b hb0 ha hb;refine aI Tryz.func56 rfl (by kernel_rfl) ?_;rw[Tryz.ntmps56];refine aD fun _ K=>?_;simp(disch:=omega) only[kd,aa,tZ,ae,ab];apply K
 refine aG [⟨2,_,_,_,h1⟩] [] fun _ K=>?_;simp(disch:=omega) only[kd,tZ,cZ,aa,ab];apply K
 refine aD fun _ K=>?_;simp(disch:=omega) only[kd,ab,aa];apply K
 (refine aH ⟨.inr rfl,aJ rfl ?_ rfl⟩;simp(disch:=omega) only[kd,Tryz.results56,ab,aa,tZ])
def fR {α:Type} (f:α->List PV) (r:List α):List PV:=[.sl (ls f r)]
abbrev slM (M:List (List Int)):TV:= .one (.p (.sl (ls (fR fZ) M)))
abbrev rOk (n:Nat) (r:List Int):Prop:=1<=r.length/\r.length<=16/\r.length=n
def AC (M:List (List Int)):Prop:=1<=M.length/\M.length<=16/\ ∀r∈M,rOk (M.headD []).length r
instance (M:List (List Int)):Decidable (AC M):=by unfold AC;exact inferInstance
def OA (M:List (List Int)):TV:=if AC M then .tup [(false,[.p (.raw (.int .i64 (M.length:Int)))]),(false,[.p (.raw (.int .i64 ((M.headD []).length:Int)))]),(false,[.p (.raw (.bool true))])]
 else .tup [(false,[.p (.raw (.int .i64 0))]),(false,[.p (.raw (.int .i64 0))]),(false,[.p (.raw (.bool false))])]
theorem fC {M:List (List Int)} (h: ¬AC M):OA M= .tup [(false,[.p (.raw (.int .i64 0))]),(false,[.p (.raw (.int .i64 0))]),(false,[.p (.raw (.bool false))])]:=by unfold OA;rw[if_neg h]
theorem iX {M:List (List Int)} (h:AC M):OA M= .tup [(false,[.p (.raw (.int .i64 (M.length:Int)))]),(false,[.p (.raw (.int .i64 ((M.headD []).length:Int)))]),(false,[.p (.raw (.bool true))])]:=by unfold OA;rw[if_pos h]
theorem ir {M:List (List Int)} (h:1<=M.length):M[0]?=some (M.headD []):=by cases M with
 |nil=>simp at h
 |cons r M=>rfl
structure QT (M:List (List Int)) where
 i:Nat
 hi:i<=M.length
 ok: ∀r∈M.take i,rOk (M.headD []).length r
theorem rK (M:List (List Int)):CallC Tryz.prog 87 [slM M] ⟨[],OA M⟩:=by
 by_cases h1:M.length<1
 ·rw[fC (fun h=>by have:=h.1;omega)];refine aI Tryz.func87 rfl (by kernel_rfl) ?_;rw[Tryz.ntmps87];refine aD fun _ K=>?_;simp only[kd,aa,slM,ae];apply K
  refine aF (aD fun _ K=>?_);simp(disch:=omega) only[kd,aa,reduceCtorEq];apply K;refine aU rfl ?_;refine aD fun _ K=>?_;simp only[kd,aa];apply K
  (refine aH ⟨.inr rfl,aJ rfl ?_ rfl⟩;simp(disch:=omega) only[kd,Tryz.results87])
 by_cases h2:16<M.length
 ·rw[fC (fun h=>by have:=h.2.1;omega)];refine aI Tryz.func87 rfl (by kernel_rfl) ?_;rw[Tryz.ntmps87];refine aD fun _ K=>?_;simp only[kd,aa,slM,ae];apply K
  refine aF (aD fun _ K=>?_);simp(disch:=omega) only[kd,aa];apply K;refine aU rfl ?_;refine aD fun _ K=>?_;simp only[kd,aa];apply K
  (refine aH ⟨.inr rfl,aJ rfl ?_ rfl⟩;simp(disch:=omega) only[kd,Tryz.results87])
 have h0:=ir (M:=M) (by omega);refine aI Tryz.func87 rfl (by kernel_rfl) ?_;rw[Tryz.ntmps87];refine aD fun _ K=>?_;simp only[kd,aa,slM,ae];apply K
 refine aF (aD fun _ K=>?_);simp(disch:=omega) only[kd,aa];apply K;refine aQ rfl (aM ?_);show bo _ _ _ _;refine aF (aD fun _ K=>?_);simp only[kd,aa];apply K;refine aX (G:=QT M) (fun g=>⟨(slM M::jk::.raw (.int .i64 0)::.raw (.int .i64 0)::.raw (.bool false)::j4 (j4 (jk::jk::slM M::rN M.length::rN g.i::j16 (j4 (j4 (jk::jk::jk::[])))))),Hm []⟩) (fun g=>M.length-g.i) ⟨0,by omega,fun r hr=>by simp at hr⟩ ?_ ?_
 ·refine aE trivial ?_;simp[wk]
 rintro⟨i,hi,ok⟩;simp only;by_cases hm:i<M.length
 ·obtain⟨r,hr⟩:=getElem?_of_lt hm;have hmem:r∈M:=List.mem_of_getElem? hr;refine aD fun _ K=>?_;simp(disch:=omega) only[kd,slM];apply K
  refine bx rfl ?_;refine aF (aK ?_);refine aD fun _ K=>?_;simp(disch:=omega) only[kd,aa,hr,fR];apply K
  by_cases c1:r.length<1
  ·rw[fC (fun h=>by have:=(h.2.2 r hmem).1;omega)];refine aD fun _ K=>?_;simp(disch:=omega) only[kd,aa,reduceCtorEq,am];apply K
   refine aU rfl ?_;refine aD fun _ K=>?_;simp only[kd,aa];apply K
   (refine aH ⟨.inr rfl,aJ rfl ?_ rfl⟩;simp(disch:=omega) only[kd,Tryz.results87])
  by_cases c2:16<r.length
  ·rw[fC (fun h=>by have:=(h.2.2 r hmem).2.1;omega)];refine aD fun _ K=>?_;simp(disch:=omega) only[kd,aa,reduceCtorEq,am];apply K
   refine aU rfl ?_;refine aD fun _ K=>?_;simp only[kd,aa];apply K
   (refine aH ⟨.inr rfl,aJ rfl ?_ rfl⟩;simp(disch:=omega) only[kd,Tryz.results87])
  by_cases c3:r.length=(M.headD []).length
  ·refine aD fun _ K=>?_;simp(disch:=omega) only[kd,aa,am,h0,fR];apply K
   refine aQ rfl (aM ?_);show bo _ _ _ _;refine aL fun _ K=>?_;simp(disch:=omega) only[kd,aO];apply K
   refine⟨⟨i+1,by omega,fun r' hr'=>?_⟩,by simp only;omega,aE trivial ?_⟩
   ·rw[List.take_add_one,hr]at hr';rcases List.mem_append.1 hr' with h|h
    ·exact ok r' h
    have:r'=r:=by simpa using h
    subst this;exact⟨by omega,by omega,c3⟩
   simp[wk]
  rw[fC (fun h=>by have:=(h.2.2 r hmem).2.2;omega)];refine aD fun _ K=>?_;simp(disch:=omega) only[kd,aa,am,h0,fR];apply K
  refine aU rfl ?_;refine aD fun _ K=>?_;simp only[kd,aa];apply K
  (refine aH ⟨.inr rfl,aJ rfl ?_ rfl⟩;simp(disch:=omega) only[kd,Tryz.results87])
 have hsh:AC M:=⟨by omega,by omega,fun r hr=>ok r (by rw[List.take_of_length_le (by omega)];exact hr)⟩;rw[iX hsh];refine aD fun _ K=>?_;simp(disch:=omega) only[kd,slM];apply K
 refine bG rfl ?_;show bo _ _ _ _;refine cx be (by kernel_rfl) fun _ K=>?_;simp(disch:=omega) only[kd,aa,am,h0,fR];apply K
 (refine aH ⟨.inr rfl,aJ rfl ?_ rfl⟩;simp(disch:=omega) only[kd,Tryz.results87])
def PO (M:List (List Int)):Prop:=AC M/\M.length=(M.headD []).length
instance (M:List (List Int)):Decidable (PO M):=by unfold PO;exact inferInstance
def Nh (M:List (List Int)):TV:=if PO M then .tup [(false,[.p (.raw (.int .i64 (M.length:Int)))]),(false,[.p (.raw (.bool true))])]else .tup [(false,[.p (.raw (.int .i64 0))]),(false,[.p (.raw (.bool false))])]
theorem yx (M:List (List Int)):CallC Tryz.prog 78 [slM M] ⟨[],Nh M⟩:=by
 have hS:=rK M;by_cases h1:AC M
 ·rw[iX h1]at hS;by_cases h2:M.length=(M.headD []).length
  ·rw[show Nh M=_ from if_pos ⟨h1,h2⟩];refine aI Tryz.func78 rfl (by kernel_rfl) ?_;rw[Tryz.ntmps78];refine aD fun _ K=>?_;simp only[kd,slM,ae];apply K
   refine aG [⟨1,_,_,_,hS⟩] [] fun _ K=>?_;simp only[kd,slM,aa];apply K
   refine aF (aD fun _ K=>?_);simp(disch:=omega) only[kd,aa];apply K;refine aQ rfl (aM ?_);show bo _ _ _ _;refine aD fun _ K=>?_;simp only[kd,aa];apply K
   (refine aH ⟨.inr rfl,aJ rfl ?_ rfl⟩;simp(disch:=omega) only[kd,Tryz.results78])
  rw[show Nh M=_ from if_neg (fun h=>h2 h.2)];refine aI Tryz.func78 rfl (by kernel_rfl) ?_;rw[Tryz.ntmps78];refine aD fun _ K=>?_;simp only[kd,slM,ae];apply K
  refine aG [⟨1,_,_,_,hS⟩] [] fun _ K=>?_;simp only[kd,slM,aa];apply K
  refine aF (aD fun _ K=>?_);simp(disch:=omega) only[kd,aa];apply K;refine aU rfl ?_;refine aD fun _ K=>?_;simp only[kd];apply K
  (refine aH ⟨.inr rfl,aJ rfl ?_ rfl⟩;simp(disch:=omega) only[kd,Tryz.results78])
 rw[fC h1]at hS;rw[show Nh M=_ from if_neg (fun h=>h1 h.1)];refine aI Tryz.func78 rfl (by kernel_rfl) ?_;rw[Tryz.ntmps78];refine aD fun _ K=>?_;simp only[kd,slM,ae];apply K
 refine aG [⟨1,_,_,_,hS⟩] [] fun _ K=>?_;simp only[kd,slM,aa];apply K
 refine aF (aD fun _ K=>?_);simp(disch:=omega) only[kd,aa,reduceCtorEq];apply K;refine aU rfl ?_;refine aD fun _ K=>?_;simp only[kd];apply K
 (refine aH ⟨.inr rfl,aJ rfl ?_ rfl⟩;simp(disch:=omega) only[kd,Tryz.results78])
def gh (d:Nat) (l:List Nat):List (List AV):=l.mapIdx fun k c=>[.sl d (k+1) 0 c]
def mL (r:List Int):OObj:=⟨42,2,lc fZ r⟩
def M8 (d:Nat) (R:List (List Int)):List OObj:=⟨84,1,gh d (R.map List.length)⟩::R.map mL
def Nn (d n c i:Nat):List OObj:=⟨84,1,gh d (ae i c)++ae (n-i) [.p (.sl [])]⟩::ae i (mL (ae c 0))
theorem cf (d:Nat) (l:List Nat):(gh d l).length=l.length:=by simp[gh]
theorem mQ (d:Nat) (l:List Nat) (c:Nat):gh d (l++[c])=gh d l++[[.sl d (l.length+1) 0 c]]:=by simp[gh,List.mapIdx_append]
theorem Ng (d:Nat) (l:List Nat):(gh d l).map (List.map AH)=gh d l:=by
 apply List.ext_getElem?;intro k;simp only[gh,ay,List.getElem?_mapIdx];cases l[k]?<;>rfl
theorem PE (r:List Int):(lc fZ r).map (List.map AH)=lc fZ r:=by simp[lc,fZ,AH,CI]
theorem F9 (d n c:Nat):([⟨84,1,ae n [.raw (.slice none 0 0)]⟩]:List OObj).map zO=Nn d n c 0:=by
 simp[Nn,zO,gh,AH,CI]
theorem Kd (d n c:Nat):Nn d n c n=M8 d (ae n (ae c 0)):=by
 simp[Nn,M8]
theorem Ee {d n c i:Nat} (hi:i<n):(gh d (ae i c)++ae (n-i) [AV.p (PV.sl [])])[i]?=some [.p (.sl [])]:=by
 rw[List.getElem?_append_right (by simp[cf]),cf,ax,Nat.sub_self,List.getElem?_replicate,if_pos (by omega)]
theorem Ke {d n c i:Nat} (hi:i<n):
  ((⟨84,1,(gh d (ae i c)++ae (n-i) [AV.p (PV.sl [])]).set i [.sl d (i+1) 0 c]⟩::ae i (mL (ae c 0))++[⟨42,2,ae c [.raw (.bool false),.raw (.slice none 0 0)]⟩]:List OObj)).map zO=Nn d n c (i+1):=by
 have e1:(gh d (ae i c)++ae (n-i) [AV.p (PV.sl [])]).set i [.sl d (i+1) 0 c]=gh d (ae (i+1) c)++ae (n-(i+1)) [AV.p (PV.sl [])]:=by
  rw[List.set_append_right _ _ (by simp[cf]),cf,ax,Nat.sub_self,List.replicate_succ' (n:=i),mQ,ax,List.append_assoc]
  congr 1
  rw[show n-i=n-(i+1)+1 by omega,List.replicate_succ];rfl
 rw[e1];simp only[List.cons_append,List.map_cons,List.map_append,List.map_replicate,Nn]
 congr 1
 ·simp[zO,Ng,AH,CI]
 rw[List.replicate_succ']
 congr 1
 ·congr 1
  simp[zO,mL,PE]
 simp[zO,mL,lc,fZ,AH,CI,cy,ls]
theorem D0 (d e:Nat) (l:List Nat):(gh d l).map (List.map (dV e))=gh e l:=by
 apply List.ext_getElem?;intro k;simp only[gh,ay,List.getElem?_mapIdx];cases l[k]?<;>rfl
theorem Ma (e:Nat) (r:List Int):renO e (mL r)=mL r:=by simp[renO,mL,xA]
theorem DI (d e:Nat) (R:List (List Int)):(M8 d R).map (renO e)=M8 e R:=by
 simp only[M8,List.map_cons,List.map_map]
 congr 1
 ·simp[renO,D0]
 exact List.map_congr_left fun r _=>Ma e r
structure QX (n:Nat) where
 i:Nat
 hi:i<=n
theorem wX (n c:Nat) (hn:n<=16) (hc:c<=16):CallC Tryz.prog 102 [.raw (.int .i64 (n:Int)),.raw (.int .i64 (c:Int))] ⟨M8 0 (ae n (ae c 0)),.one (.sl 0 0 0 n)⟩:=by
 refine aI Tryz.func102 rfl (by kernel_rfl) ?_;rw[Tryz.ntmps102];refine aD fun _ K=>?_;simp only[kd,aa,ae];apply K
 refine aD fun _ K=>?_;simp(disch:=omega) only[kd,aa];apply K
 refine aF (aD fun _ K=>?_);simp only[kd,aa];apply K;refine aX (G:=QX n) (fun g=>⟨(.raw (.int .i64 (n:Int))::rN c::jk::jk::.raw (.slice none 0 0)::.one (.sl 8 0 0 n)::j4 (.raw (.int .i64 (n:Int))::rN g.i::j4 (j4 (jk::[])))),Hm [(8,Nn 8 n c g.i)]⟩) (fun g=>n-g.i) ⟨0,by omega⟩ ?_ ?_
 ·refine(gy 8).trans (aE ⟨F9 8 n c,trivial⟩ ?_);simp[wk]
 rintro⟨i,hi⟩;simp only;by_cases hm:i<n
 ·refine aD fun _ K=>?_;simp(disch:=omega) only[kd];apply K
  refine bx rfl ?_;refine aF (aK ?_);refine aD fun _ K=>?_;simp only[kd];apply K
  simp only[Nn];have hg:=Ee (d:=8) (c:=c) hm;refine aL fun _ K=>?_;simp(disch:=omega) only[kd,aa,ab,hg,ah,ax,List.all_replicate,ite_self,af];apply K
  show bo _ _ _ _;refine aL fun _ K=>?_;simp(disch:=omega) only[kd,aO];apply K
  refine⟨⟨i+1,by omega⟩,by simp only;omega,(gy 8).trans (aE ⟨Ke hm,trivial⟩ ?_)⟩;simp[wk]
 have hin:i=n:=by omega
 subst hin;refine aD fun _ K=>?_;simp(disch:=omega) only[kd];apply K
 refine bG rfl ?_;show bo _ _ _ _;rw[Kd];refine aD fun _ K=>?_;simp only[kd];apply K
 refine aH ⟨.inr rfl,_,ca.refl _,?_⟩;refine⟨.one (.sl 8 0 0 i),8,?_,rfl,?_,rfl⟩
 ·simp(disch:=omega) only[kd,Tryz.results102]
 exact(DI 8 0 _).symm
abbrev iy (d n c:Nat) (f:FF):List OObj:=⟨84,1,gh d (ae n c)⟩::(mat n c f).map mL
theorem Ie (n c:Nat) (f:FF):(mat n c f).map List.length=ae n c:=by
 apply List.ext_getElem?;intro i;rw[ay,List.getElem?_replicate];by_cases h:i<n
 ·rw[bv _ _ h,if_pos h];simp[bs]
 rw[aq (by rw[bf];omega),if_neg h];rfl
theorem qy (d n c:Nat) (f:FF):M8 d (mat n c f)=iy d n c f:=by rw[M8,Ie]
theorem rU (n c:Nat):ae n (ae c (0:Int))=mat n c fun _ _=>0:=by
 apply List.ext_getElem?;intro i;rw[List.getElem?_replicate];by_cases h:i<n
 ·rw[bv _ _ h,if_pos h]
  congr 1
  apply List.ext_getElem?;intro j;rw[List.getElem?_replicate];by_cases h:j<c
  ·rw[aT _ h,if_pos h]
  rw[aq (by rw[bs];omega),if_neg h]
 rw[aq (by rw[bf];omega),if_neg h]
theorem bK {n i:Nat} (d c:Nat) (h:i<n):(gh d (ae n c))[i]?=some [.sl d (i+1) 0 c]:=by
 simp[gh,h]
theorem fQ {n i:Nat} (c:Nat) (f:FF) (h:i<n):((mat n c f).map mL)[i]?=some ⟨42,2,lc fZ (bA c (f i))⟩:=by
 rw[ay,bv _ _ h];rfl
def upd (f:FF) (i j:Nat) (v:Int):Nat->Nat->Int:=fun a=>if a=i then(fun b=>if b=j then v else f i b)else f a
theorem lD {n i j:Nat} (c:Nat) (f:FF) (v:Int):((mat n c f).map mL).set i ⟨42,2,(lc fZ (bA c (f i))).set j [.p (.raw (.bool (decide (v<0)))),.p (.sl (ls fU (aP v.natAbs)))]⟩=(mat n c (upd f i j v)).map mL:=by
 have e:(⟨42,2,(lc fZ (bA c (f i))).set j [.p (.raw (.bool (decide (v<0)))),.p (.sl (ls fU (aP v.natAbs)))]⟩:OObj)=mL (bA c fun b=>if b=j then v else f i b):=by
  rw[<- pN,mL,<- xB];rfl
 rw[e,<- List.map_set,DG];rfl
theorem da {n c:Nat} {f g:FF} (h: ∀i j,i<n->j<c->f i j=g i j):(mat n c f).map mL=(mat n c g).map mL:=by rw[dE h]
theorem fP (d e n c:Nat) (f:FF):(iy d n c f).map (renO e)=iy e n c f:=by rw[<- qy,<- qy,DI]
theorem jH {H:OH} {d n c:Nat} {f:FF} (h:H d=iy d n c f):u5 H d:=fun r o ho e he x hx=>by
 rw[h]at ho;cases r with
 |succ r=>
  rw[List.getElem?_cons_succ,ay]at ho;obtain⟨l,hl,rfl⟩:=Option.map_eq_some_iff.1 ho;exact .inl (d7 _ _ l e he x hx)
 |zero=>
  simp at ho;subst ho;simp only at he;obtain⟨k,hk⟩:=List.mem_iff_getElem?.1 he;have hkn:k<n:=by
   have:=(List.getElem?_eq_some_iff.1 hk).1;rwa[cf,ax]at this
  rw[bK d c hkn]at hk;injection hk with hk
  subst hk;simp at hx;subst hx;refine .inr ⟨k+1,0,c,mL (bA c (f k)),rfl,?_,d7 _ _ _⟩;rw[h,List.getElem?_cons_succ,ay,bv _ _ hkn];rfl
theorem M5 {H:OH} {d n c:Nat} {f:FF} (h:H d=iy d n c f):gC H d (.one (.sl d 0 0 n))=slM (mat n c f):=by
 have e:((gh d (ae n c)).map (List.map (jE H d)))=ls (fR fZ) (mat n c f):=by
  apply List.ext_getElem?;intro i;rw[ay,gF];by_cases hi:i<n
  ·rw[bK d c hi,bv _ _ hi];simp only[Option.map_some,List.map_cons,List.map_nil,jE,h,List.getElem?_cons_succ,fQ _ _ hi,fR,fO,xy,rS];rw[List.drop_zero,List.take_of_length_le (by rw[bs];omega)]
  rw[aq (by rw[cf,ax];omega),aq (by rw[bf];omega)];rfl
 simp only[gC,fb,if_true,h,List.getElem?_cons_zero];rw[List.drop_zero,List.take_of_length_le (by rw[cf,ax];omega),e]
abbrev slI (M:List (List Int)):TV:= .one (.p (.sl (ls (fR fI) M)))
def N0:TV:= .tup [(false,[.p (.raw (.slice none 0 0))]),(false,[.p (.raw (.bool false))])]
def K8 (M:List (List Int)):TV:= .tup [(false,[.p (.sl (ls (fR fZ) M))]),(false,[.p (.raw (.bool true))])]
structure jA (n:Nat) where
 i:Nat
 hi:i<=n
def part (f:FF) (i j:Nat):Nat->Nat->Int:=fun a b=>if a<i\/(a=i/\b<j)then f a b else 0
theorem ja (f:FF) (i j a b:Nat):upd (part f i j) i j (f i j) a b=part f i (j+1) a b:=by
 unfold upd part;by_cases h1:a=i
 ·subst h1;by_cases h2:b=j
  ·subst h2;simp
  have:b<j+1↔b<j:=by omega
  simp[h2,this]
 simp[h1]
theorem ku {c:Nat} (f:FF) (i a b:Nat) (hb:b<c):part f i c a b=part f (i+1) 0 a b:=by
 unfold part;by_cases h1:a<i
 ·rw[if_pos (.inl h1),if_pos (.inl (by omega))]
 by_cases h2:a=i
 ·rw[if_pos (.inr ⟨h2,hb⟩),if_pos (.inl (by omega))]
 rw[if_neg (by omega),if_neg (by omega)]
theorem kt {n:Nat} (f:FF) (a b:Nat) (ha:a<n):part f n 0 a b=f a b:=by
 unfold part;rw[if_pos (.inl ha)]
theorem wu (f:FF):part f 0 0=fun _ _=>0:=by
 funext a b;unfold part;rw[if_neg (by omega)]
theorem sj (n c:Nat) (f:FF) (hn1:1<=n) (hn:n<=16) (hc1:1<=c) (hc:c<=16) (hf: ∀i j,i<n->j<c-> -9223372036854775808<=f i j/\f i j<=9223372036854775807):
  CallC Tryz.prog 59 [slI (mat n c f)] ⟨[],K8 (mat n c f)⟩:=by
 have hml:=bf n c f;have h0:=bv (n:=n) c f (i:=0) (by omega);have hZ:=wX n c hn hc;rw[rU,qy]at hZ;refine aI Tryz.func59 rfl (by kernel_rfl) ?_;rw[Tryz.ntmps59];refine aD fun _ K=>?_;simp only[kd,slI,ae];apply K
 refine aF (aD fun _ K=>?_);simp(disch:=omega) only[kd,aa,hml];apply K;refine aQ rfl (aM ?_);show bo _ _ _ _;refine aF (aD fun _ K=>?_);simp only[kd,aa,hml];apply K;refine aX (G:=jA n) (fun g=>⟨(slI (mat n c f)::jk::.raw (.slice none 0 0)::.raw (.bool false)::j4 (j4 (j4 (jk::slI (mat n c f)::rN n::rN g.i::j16 (j16 (j16 (j4 (j4 (jk::jk::[]))))))))),Hm []⟩) (fun g=>n-g.i) ⟨0,by omega⟩ ?_ ?_
 ·refine aE trivial ?_;simp[wk]
 rintro⟨i,hi⟩;simp only;by_cases hm:i<n
 ·have hr:=bv c f hm;refine aD fun _ K=>?_;simp(disch:=omega) only[kd,slI];apply K
  refine bx rfl ?_;refine aF (aK ?_);refine aD fun _ K=>?_;simp(disch:=omega) only[kd,aa,hr,fR];apply K
  refine aD fun _ K=>?_;simp(disch:=omega) only[kd,aa,bs,am,h0,fR];apply K
  refine aQ rfl (aM ?_);show bo _ _ _ _;refine aL fun _ K=>?_;simp(disch:=omega) only[kd,aO];apply K
  refine⟨⟨i+1,by omega⟩,by simp only;omega,aE trivial ?_⟩;simp[wk]
 refine aD fun _ K=>?_;simp(disch:=omega) only[kd,slI];apply K
 refine bG rfl ?_;show bo _ _ _ _;refine aG [⟨6,_,_,_,hZ⟩] [] fun _ K=>?_;simp(disch:=omega) only[kd,aa,hml,am,h0,fR,bs];apply K
 refine aF (aD fun _ K=>?_);simp only[kd,aa,hml];apply K;refine aX (G:=jA n) (fun g=>⟨(slI (mat n c f)::jk::.raw (.slice none 0 0)::.raw (.bool false)::jk::jk::.one (.sl 47 0 0 n)::j16 (j16 (j4 (j4 (jk::jk::rN n::rN g.i::j16 (j4 (j4 (jk::jk::jk::[])))))))),Hm [(47,iy 47 n c (part f g.i 0))]⟩) (fun g=>n-g.i) ⟨0,by omega⟩ ?_ ?_
 ·refine aE ⟨?_,trivial⟩ ?_
  ·rw[wu];exact fP 0 47 n c _
  simp[wk]
 rintro⟨i,hi⟩;simp only;by_cases hm2:i<n
 ·have hr:=bv c f hm2;refine aD fun _ K=>?_;simp(disch:=omega) only[kd,slI];apply K
  refine bx rfl ?_;refine aF (aK ?_);refine aD fun _ K=>?_;simp only[kd];apply K
  refine aD fun _ K=>?_;simp(disch:=omega) only[kd,aa,hr,fR,bs];apply K
  refine aX (G:=jA c) (fun g=>⟨(slI (mat n c f)::jk::.raw (.slice none 0 0)::.raw (.bool false)::jk::jk::.one (.sl 47 0 0 n)::rN i::j16 (j16 (j4 (j4 (jk::rN n::rN i::j4 (jk::jk::rN c::rN g.i::j16 (jk::jk::jk::[]))))))),Hm [(47,iy 47 n c (part f i g.i))]⟩) (fun g=>c-g.i) ⟨0,by omega⟩ ?_ ?_
  ·refine aE ⟨rfl,trivial⟩ ?_;simp[wk]
  rintro⟨j,hj⟩;simp only;by_cases hm3:j<c
  ·have hjr:=aT (f i) hm3;have hS:=fW (f i j) (hf i j hm2 hm3).1 (hf i j hm2 hm3).2;have g1:=bK (n:=n) (i:=i) 47 c hm2;have g2:=fQ c (part f i j) hm2;have g3:=aT (part f i j i) hm3;refine aD fun _ K=>?_;simp(disch:=omega) only[kd,slI];apply K
   refine bx rfl ?_;refine aF (aK ?_);refine aD fun _ K=>?_;simp only[kd];apply K
   refine dW be [⟨12,_,_,_,hS⟩] [] (by kernel_rfl) fun _ K=>?_;simp(disch:=omega) only[kd,tZ,aa,g1,hr,fR,hjr,g2,fZ,g3,lD];apply K
   show bo _ _ _ _;refine aL fun _ K=>?_;simp(disch:=omega) only[kd,aO];apply K
   refine⟨⟨j+1,by omega⟩,by simp only;omega,aE ⟨?_,trivial⟩ ?_⟩
   ·show _::_=_::_;rw[da fun a b _ _=>ja f i j a b]
   simp[wk]
  have hjc:j=c:=by omega
  subst hjc;refine aD fun _ K=>?_;simp(disch:=omega) only[kd,slI];apply K
  refine bG rfl ?_;show bo _ _ _ _;refine aL fun _ K=>?_;simp(disch:=omega) only[kd,aO];apply K
  refine⟨⟨i+1,by omega⟩,by simp only;omega,aE ⟨?_,trivial⟩ ?_⟩
  ·show _::_=_::_;rw[da fun a b _ hb=>ku f i a b hb]
  simp[wk]
 have hin:i=n:=by omega
 subst hin;refine aD fun _ K=>?_;simp(disch:=omega) only[kd,slI];apply K
 refine bG rfl ?_;show bo _ _ _ _;have e:iy 47 i c (part f i 0)=iy 47 i c f:=by
  show _::_=_::_;rw[da fun a b ha _=>kt f a b ha]
 rw[e];refine bo.weak ((bH 47 (jH rfl)).trans (aE (tm:=(j4 (jk::jk::slM (mat i c f)::j16 (j16 (j16 (j16 (j4 (jk::jk::jk::[])))))))) (l:=[]) trivial (by simp[wk];exact(M5 (H:=Hm [(47,iy 47 i c f)]) (d:=47) (n:=i) (c:=c) (f:=f) rfl).symm))) ?_;refine aD fun _ K=>?_;simp only[kd,aa,slM];apply K
 (refine aH ⟨.inr rfl,aJ rfl ?_ rfl⟩;simp(disch:=omega) only[kd,Tryz.results59,K8])
structure QH (M:List (List Int)) where
 i:Nat
 hi:i<=M.length
 ok: ∀r∈M.take i,rOk (M.headD []).length r
theorem yo (M:List (List Int)) (hM: ¬AC M):CallC Tryz.prog 59 [slI M] ⟨[],N0⟩:=by
 by_cases h1:M.length<1
 ·refine aI Tryz.func59 rfl (by kernel_rfl) ?_;rw[Tryz.ntmps59];refine aD fun _ K=>?_;simp only[kd,slI,ae];apply K
  refine aF (aD fun _ K=>?_);simp(disch:=omega) only[kd,aa,reduceCtorEq];apply K;refine aU rfl ?_;refine aD fun _ K=>?_;simp only[kd];apply K
  (refine aH ⟨.inr rfl,aJ rfl ?_ rfl⟩;simp(disch:=omega) only[kd,Tryz.results59,N0])
 by_cases h2:16<M.length
 ·refine aI Tryz.func59 rfl (by kernel_rfl) ?_;rw[Tryz.ntmps59];refine aD fun _ K=>?_;simp only[kd,slI,ae];apply K
  refine aF (aD fun _ K=>?_);simp(disch:=omega) only[kd,aa];apply K;refine aU rfl ?_;refine aD fun _ K=>?_;simp only[kd];apply K
  (refine aH ⟨.inr rfl,aJ rfl ?_ rfl⟩;simp(disch:=omega) only[kd,Tryz.results59,N0])
 have h0:=ir (M:=M) (by omega);refine aI Tryz.func59 rfl (by kernel_rfl) ?_;rw[Tryz.ntmps59];refine aD fun _ K=>?_;simp only[kd,slI,ae];apply K
 refine aF (aD fun _ K=>?_);simp(disch:=omega) only[kd,aa];apply K;refine aQ rfl (aM ?_);show bo _ _ _ _;refine aF (aD fun _ K=>?_);simp only[kd,aa];apply K;refine aX (G:=QH M) (fun g=>⟨(slI M::jk::.raw (.slice none 0 0)::.raw (.bool false)::j4 (j4 (j4 (jk::slI M::rN M.length::rN g.i::j16 (j16 (j16 (j4 (j4 (jk::jk::[]))))))))),Hm []⟩) (fun g=>M.length-g.i) ⟨0,by omega,fun r hr=>by simp at hr⟩ ?_ ?_
 ·refine aE trivial ?_;simp[wk]
 rintro⟨i,hi,ok⟩;simp only;by_cases hm:i<M.length
 ·obtain⟨r,hr⟩:=getElem?_of_lt hm;refine aD fun _ K=>?_;simp(disch:=omega) only[kd,slI];apply K
  refine bx rfl ?_;refine aF (aK ?_);refine aD fun _ K=>?_;simp(disch:=omega) only[kd,aa,hr,fR];apply K
  by_cases c1:r.length<1
  ·refine aD fun _ K=>?_;simp(disch:=omega) only[kd,aa,reduceCtorEq,am];apply K
   refine aU rfl ?_;refine aD fun _ K=>?_;simp only[kd];apply K
   (refine aH ⟨.inr rfl,aJ rfl ?_ rfl⟩;simp(disch:=omega) only[kd,Tryz.results59,N0])
  by_cases c2:16<r.length
  ·refine aD fun _ K=>?_;simp(disch:=omega) only[kd,aa,reduceCtorEq,am];apply K
   refine aU rfl ?_;refine aD fun _ K=>?_;simp only[kd];apply K
   (refine aH ⟨.inr rfl,aJ rfl ?_ rfl⟩;simp(disch:=omega) only[kd,Tryz.results59,N0])
  by_cases c3:r.length=(M.headD []).length
  ·refine aD fun _ K=>?_;simp(disch:=omega) only[kd,aa,am,h0,fR];apply K
   refine aQ rfl (aM ?_);show bo _ _ _ _;refine aL fun _ K=>?_;simp(disch:=omega) only[kd,aO];apply K
   refine⟨⟨i+1,by omega,fun r' hr'=>?_⟩,by simp only;omega,aE trivial ?_⟩
   ·rw[List.take_add_one,hr]at hr';rcases List.mem_append.1 hr' with h|h
    ·exact ok r' h
    have:r'=r:=by simpa using h
    subst this;exact⟨by omega,by omega,c3⟩
   simp[wk]
  refine aD fun _ K=>?_;simp(disch:=omega) only[kd,aa,am,h0,fR];apply K
  refine aU rfl ?_;refine aD fun _ K=>?_;simp only[kd];apply K
  (refine aH ⟨.inr rfl,aJ rfl ?_ rfl⟩;simp(disch:=omega) only[kd,Tryz.results59,N0])
 exact absurd ⟨by omega,by omega,fun r hr=>ok r (by rw[List.take_of_length_le (by omega)];exact hr)⟩ hM
theorem AL (n c:Nat) (f:FF) (hn1:1<=n) (hn:n<=16) (hc1:1<=c) (hc:c<=16) (hf: ∀i j,i<n->j<c-> -9223372036854775808<=f i j/\f i j<=9223372036854775807):
  CallC Tryz.prog 23 [slI (mat n c f)] ⟨[],slM (mat n c f)⟩:=by
 have hF:=sj n c f hn1 hn hc1 hc hf;refine aI Tryz.func23 rfl (by kernel_rfl) ?_;rw[Tryz.ntmps23];refine aD fun _ K=>?_;simp only[kd,slI,ae];apply K
 refine aG [⟨1,_,_,_,hF⟩] [] fun _ K=>?_;simp only[kd,slI,K8,aa];apply K
 refine aD fun _ K=>?_;simp only[kd];apply K
 (refine aH ⟨.inr rfl,aJ rfl ?_ rfl⟩;simp(disch:=omega) only[kd,Tryz.results23,slM])
abbrev rH (l:List Nat):TV:= .one (.p (.sl (ls fN l)))
theorem K9 (k more:Nat) (hk:k<=16) (hm:more<=16):CallC Tryz.prog 133 [.raw (.int .i64 (k:Int)),.raw (.int .i64 (more:Int))] ⟨[],rH (List.range k++[more])⟩:=by
 refine aI Tryz.func133 rfl (by kernel_rfl) ?_;rw[Tryz.ntmps133];refine aD fun _ K=>?_;simp only[kd,aa,ae];apply K
 refine aD fun _ K=>?_;simp only[kd];apply K
 refine aF (aD fun _ K=>?_);simp only[kd];apply K;refine aX (G:=jA k) (fun g=>⟨(.raw (.int .i64 (k:Int))::rN more::jk::jk::.raw (.slice none 0 0)::.one (.sl 15 0 0 g.i)::rN g.i::j4 (j4 (j4 (jk::[])))),Hm [(15,[⟨3,1,lc fN (List.range g.i)⟩])]⟩) (fun g=>k-g.i) ⟨0,by omega⟩ ?_ ?_
 ·refine(ef (k:=5) (d:=15) 3 1 (by omega) rfl rfl).trans (aE ⟨rfl,trivial⟩ ?_);simp[wk]
 rintro⟨i,hi⟩;simp only;by_cases hm:i<k
 ·refine aF (aD fun _ K=>?_);simp(disch:=omega) only[kd,aa];apply K;refine aU rfl (aM ?_);refine aF (aK ?_);refine aL fun _ K=>?_;simp(disch:=omega) only[kd,aa,Nat.reduceMul,ah,List.length_range,mv];apply K
  show bo _ _ _ _;refine aL fun _ K=>?_;simp(disch:=omega) only[kd,aa,aO];apply K
  refine⟨⟨i+1,by omega⟩,by simp only;omega,aE ⟨?_,trivial⟩ ?_⟩
  ·rw[List.range_succ];rfl
  simp[wk]
 have hik:i=k:=by omega
 subst hik;refine aF (aD fun _ K=>?_);simp(disch:=omega) only[kd,aa];apply K;refine aQ rfl (bN ?_);show bo _ _ _ _;refine aD fun _ K=>?_;simp(disch:=omega) only[kd,aa,Nat.reduceMul,ah,List.length_range,mv];apply K
 refine aH ⟨.inr rfl,iM 15 (cw rfl) ?_ rfl⟩;have eT:List.take (i+1) (List.range i++[more])=List.range i++[more]:=List.take_of_length_le (by simp);simp(disch:=omega) only[kd,Tryz.results133,eT,rH]
structure P9 (n:Nat) where
 i:Nat
 hi:i<=n
theorem tD (l:List Int) (v:Int):lc fZ l++[[.p (.raw (.bool (decide (v<0)))),.p (.sl (ls fU (aP v.natAbs)))]]=lc fZ (l++[v]):=by simp[lc,fZ]
theorem H9 (M:List (List Int)) (r:List Int):lc (fR fZ) M++[[.p (.sl (ls fZ r))]]=lc (fR fZ) (M++[r]):=by simp[lc,fR]
theorem wJ {α β:Type} {l:List α} {i:Nat} {x:α} (g:α->β) (h:l[i]?=some x):(l.take i).map g++[g x]=(l.take (i+1)).map g:=by
 rw[List.take_add_one,h];simp
theorem yv (n c:Nat) (f:FF) (rs cs:List Nat) (hn:n<=16) (hc:c<=16) (hr: ∀x∈rs,x<n) (hs: ∀x∈cs,x<c) (lr:rs.length<=17) (lcs:cs.length<=17):
  CallC Tryz.prog 132 [slM (mat n c f),rH rs,rH cs] ⟨[],slM (rs.map fun i=>cs.map (f i))⟩:=by
 have hml:=bf n c f;refine aI Tryz.func132 rfl (by kernel_rfl) ?_;rw[Tryz.ntmps132];refine aD fun _ K=>?_;simp only[kd,slM,rH,aa,ae];apply K
 refine aD fun _ K=>?_;simp only[kd];apply K
 refine aF (aD fun _ K=>?_);simp only[kd,aa];apply K;refine aX (G:=P9 rs.length) (fun g=>⟨(slM (mat n c f)::rH rs::rH cs::jk::jk::jk::.raw (.slice none 0 0)::.one (.sl 39 0 0 g.i)::j4 (jk::rH rs::rN rs.length::rN g.i::j16 (j4 (j4 (jk::jk::[]))))),Hm [(39,[⟨84,1,lc (fR fZ) ((rs.take g.i).map fun i=>cs.map (f i))⟩])]⟩) (fun g=>rs.length-g.i) ⟨0,by omega⟩ ?_ ?_
 ·refine(ef (k:=7) (d:=39) 84 1 (by omega) rfl rfl).trans (aE ⟨rfl,trivial⟩ ?_);simp[wk]
 rintro⟨i,hi⟩;simp only;by_cases hm:i<rs.length
 ·obtain⟨r,hri⟩:=getElem?_of_lt hm;have hrn:=hr r (List.mem_of_getElem? hri);have hrow:=bv c f hrn;refine aD fun _ K=>?_;simp(disch:=omega) only[kd,slM,rH];apply K
  refine bx rfl ?_;refine aF (aK ?_);refine aD fun _ K=>?_;simp(disch:=omega) only[kd,aa,hri];apply K
  refine aD fun _ K=>?_;simp only[kd];apply K
  refine aF (aD fun _ K=>?_);simp only[kd,aa];apply K;refine aX (G:=P9 cs.length) (fun g=>⟨(slM (mat n c f)::rH rs::rH cs::jk::jk::jk::.raw (.slice none 0 0)::.one (.sl 39 0 0 i)::jk::rN r::.one (.sl 34 0 0 g.i)::jk::jk::rH rs::rN rs.length::rN i::jk::jk::jk::rH cs::rN cs.length::rN g.i::j16 (j4 ([]))),Hm [(39,[⟨84,1,lc (fR fZ) ((rs.take i).map fun i=>cs.map (f i))⟩]),(34,[⟨42,2,lc fZ ((cs.take g.i).map (f r))⟩])]⟩) (fun g=>cs.length-g.i) ⟨0,by omega⟩ ?_ ?_
  ·refine(ef (k:=10) (d:=34) 42 2 (by omega) rfl rfl).trans (aE ⟨rfl,rfl,trivial⟩ ?_);simp[wk]
  rintro⟨j,hj⟩;simp only;by_cases hm2:j<cs.length
  ·obtain⟨s,hsj⟩:=getElem?_of_lt hm2;have hsc:=hs s (List.mem_of_getElem? hsj);have hent:=aT (f r) hsc;have eL:((cs.take j).map (f r)).length=j:=by simp;omega
   refine aD fun _ K=>?_;simp(disch:=omega) only[kd,slM,rH];apply K
   refine bx rfl ?_;refine aF (aK ?_);refine aD fun _ K=>?_;simp(disch:=omega) only[kd,aa,hsj];apply K
   refine aL fun _ K=>?_;simp(disch:=omega) only[kd,aa,hrow,fR,hent,fZ,Nat.reduceMul,ah,ab,eL,tD,wJ (f r) hsj,af];apply K
   show bo _ _ _ _;refine aL fun _ K=>?_;simp(disch:=omega) only[kd,aO];apply K
   refine⟨⟨j+1,by omega⟩,by simp only;omega,aE ⟨rfl,rfl,trivial⟩ ?_⟩;simp[wk]
  have hjc:j=cs.length:=by omega
  subst hjc;refine aD fun _ K=>?_;simp(disch:=omega) only[kd,slM,rH];apply K
  refine bG rfl ?_;show bo _ _ _ _;refine bo.weak ((bH 34 (cw rfl)).trans (aE (tm:=(slM (mat n c f)::rH rs::rH cs::jk::jk::jk::.raw (.slice none 0 0)::.one (.sl 39 0 0 i)::jk::jk::.one (.p (.sl (ls fZ (cs.map (f r)))))::jk::jk::rH rs::rN rs.length::rN i::j16 (j4 (j4 (jk::jk::[]))))) (l:=[(39,[⟨84,1,lc (fR fZ) ((rs.take i).map fun i=>cs.map (f i))⟩])]) ⟨rfl,trivial⟩ (by simp[wk,gC,fb,Hm,fO,gE,List.take_of_length_le]))) ?_;have eL:((rs.take i).map fun i=>cs.map (f i)).length=i:=by simp;omega
  have eS:=wJ (fun i=>cs.map (f i)) hri;refine aL fun _ K=>?_;simp(disch:=omega) only[kd,aa,slM,rH,Nat.reduceMul,ah,eL,H9,eS];apply K
  show bo _ _ _ _;refine aL fun _ K=>?_;simp(disch:=omega) only[kd,aO];apply K
  refine⟨⟨i+1,by omega⟩,by simp only;omega,aE ⟨rfl,trivial⟩ ?_⟩;simp[wk]
 have hin:i=rs.length:=by omega
 subst hin;refine aD fun _ K=>?_;simp(disch:=omega) only[kd,slM,rH];apply K
 refine bG rfl ?_;show bo _ _ _ _;refine aD fun _ K=>?_;simp only[kd];apply K
 refine aH ⟨.inr rfl,iM 39 (cw rfl) ?_ rfl⟩;have eT:List.take rs.length (List.map (fun i=>cs.map (f i)) rs)=rs.map fun i=>cs.map (f i):=List.take_of_length_le (by simp)
 simp(disch:=omega) only[kd,Tryz.results132,List.take_length,eT,slM]
abbrev oK:List AV:=[.raw (.slice none 0 0)]
theorem nA {α:Type} {A:List α} {x:α} {l:List α} {i:Nat} (h:A.length=i):(A++x::l)[i]?=some x:=by
 rw[List.getElem?_append_right (by omega),h,Nat.sub_self];rfl
theorem nB {α:Type} {A:List α} {x y:α} {l:List α} {i:Nat} (h:A.length=i):(A++x::l).set i y=A++y::l:=by
 rw[List.set_append_right _ _ (by omega),h,Nat.sub_self];rfl
theorem Jd (k:Nat->Nat->Bool) (R:List (List Int)):(R.map mL).map (gD k)=R.map mL:=by
 rw[List.map_map];exact List.map_congr_left fun r _=>by simp[gD,mL,xz]
theorem Al (d i c:Nat):(gh d (ae i c)).map (List.map (bC fun x y=>x==d&&y==i+1))=gh d (ae i c):=by
 apply List.ext_getElem?;intro k;rw[ay];by_cases h:k<i
 ·rw[bK d c h];have:k≠i:=by omega
  simp[bC,this]
 rw[aq (by rw[cf,ax];omega)];rfl
def KU (d n c:Nat) (f:FF) (i:Nat):List OObj:=⟨84,1,gh d (ae i c)++ae (n-i) oK⟩::(mat i c f).map mL
def OZ (d n c:Nat) (f:FF) (i j:Nat):List OObj:=⟨84,1,gh d (ae i c)++[.sl d (i+1) 0 (j+1)]::ae (n-i-1) oK⟩::((mat i c f).map mL++[mL (bA (j+1) (f i))])
def PR (d n c:Nat) (f:FF) (i:Nat):Nat->List OObj
 |0=>KU d n c f i
 |j+1=>OZ d n c f i j
theorem tH (i c:Nat) (f:FF):mat (i+1) c f=mat i c f++[bA c (f i)]:=by simp[mat,List.range_succ]
theorem nP (j:Nat) (g:Nat->Int):bA (j+1) g=bA j g++[g j]:=by simp[bA,List.range_succ]
theorem NW {d n c i:Nat} (f:FF) (hc:1<=c) (hi:i<n):PR d n c f i c=KU d n c f (i+1):=by
 obtain⟨j,rfl⟩: ∃j,c=j+1:=⟨c-1,by omega⟩;show OZ d n (j+1) f i j=_;unfold OZ KU;rw[tH,List.replicate_succ' (n:=i),mQ,ax];simp[Nat.sub_sub]
theorem NV (d n c:Nat) (f:FF):KU d n c f n=iy d n c f:=by
 unfold KU;simp
theorem KV {d n c i:Nat} (f:FF) (hi:i<n):KU d n c f i=⟨84,1,gh d (ae i c)++oK::ae (n-i-1) oK⟩::(mat i c f).map mL:=by
 unfold KU;rw[show n-i=n-i-1+1 by omega,List.replicate_succ];rfl
theorem Gj (n c:Nat) (f:FF) (hn:n<=17) (hc1:1<=c) (hc:c<=17) (hf: ∀i j,i<n->j<c->Bg (f i j)):
  CallC Tryz.prog 54 [slM (mat n c f)] ⟨iy 0 n c f,.one (.sl 0 0 0 n)⟩:=by
 have hml:=bf n c f;refine aI Tryz.func54 rfl (by kernel_rfl) ?_;rw[Tryz.ntmps54];refine aD fun _ K=>?_;simp only[kd,slM,ae];apply K
 refine aD fun _ K=>?_;simp(disch:=omega) only[kd,aa,hml];apply K
 refine aF (aD fun _ K=>?_);simp only[kd,aa,hml];apply K;refine aX (G:=jA n) (fun g=>⟨(slM (mat n c f)::jk::.raw (.slice none 0 0)::.one (.sl 9 0 0 n)::j4 (jk::jk::jk::rN n::rN g.i::j16 (j4 (j4 (jk::[]))))),Hm [(9,KU 9 n c f g.i)]⟩) (fun g=>n-g.i) ⟨0,by omega⟩ ?_ ?_
 ·refine aE ⟨?_,trivial⟩ ?_
  ·show[_]=_;simp[KU,gh,mat]
  simp[wk]
 rintro⟨i,hi⟩;simp only;by_cases hm:i<n
 ·have hrow:=bv c f hm;have hmi:=bf i c f;have hsl:(gh 9 (ae i c)).length=i:=by rw[cf,ax]
  have hrl:((mat i c f).map mL).length=i:=by rw[List.length_map,hmi]
  refine aD fun _ K=>?_;simp(disch:=omega) only[kd,slM];apply K
  refine bx rfl ?_;refine aF (aK ?_);refine aD fun _ K=>?_;simp only[kd];apply K
  refine aD fun _ K=>?_;simp(disch:=omega) only[kd,aa,hrow,fR,bs];apply K
  refine aX (G:=jA c) (fun g=>⟨(slM (mat n c f)::jk::.raw (.slice none 0 0)::.one (.sl 9 0 0 n)::rN i::j4 (jk::jk::rN n::rN i::j4 (jk::.one (.p (.sl (ls fZ (bA c (f i)))))::rN c::rN g.i::j16 (jk::[])))),Hm [(9,PR 9 n c f i g.i)]⟩) (fun g=>c-g.i) ⟨0,by omega⟩ ?_ ?_
  ·refine aE ⟨rfl,trivial⟩ ?_;simp[wk]
  rintro⟨j,hj⟩;simp only;by_cases hm2:j<c
  ·have hent:=aT (f i) hm2;have hN:=Iu (f i j) (hf i j hm hm2);cases j with
   |zero=>
    rw[PR,KV f hm];refine aD fun _ K=>?_;simp(disch:=omega) only[kd,slM];apply K
    refine bx rfl ?_;refine aF (aK ?_);refine aD fun _ K=>?_;simp(disch:=omega) only[kd,aa,hent,fZ,ab];apply K
    refine dW be [⟨7,_,_,_,hN⟩] [] (by kernel_rfl) fun _ K=>?_;simp(disch:=omega) only[kd,tZ,aa,ab,nA hsl,Nat.reduceMul,ah,nB hsl,hmi,af];apply K
    show bo _ _ _ _;refine aL fun _ K=>?_;simp(disch:=omega) only[kd,aO];apply K
    refine⟨⟨1,by omega⟩,by simp only;omega,aE ⟨?_,trivial⟩ ?_⟩
    ·rfl
    simp[wk]
   |succ j=>
    have h01:(0==i+1)=false:=by simp
    rw[PR,OZ];refine aD fun _ K=>?_;simp(disch:=omega) only[kd,slM];apply K
    refine bx rfl ?_;refine aF (aK ?_);refine aD fun _ K=>?_;simp(disch:=omega) only[kd,aa,hent,fZ,ab];apply K
    refine dW be [⟨7,_,_,_,hN⟩] [] (by kernel_rfl) fun _ K=>?_;simp(disch:=omega) only[kd,tZ,aa,mL,ab,nA hsl,Nat.reduceMul,ah,nA hrl,bs,List.map_append,Al,List.map_replicate,Jd,tD,nB hrl,h01,af,nB hsl,reduceCtorEq,List.length_append,hrl];apply K
    show bo _ _ _ _;refine aL fun _ K=>?_;simp(disch:=omega) only[kd,aO];apply K
    refine⟨⟨j+1+1,by omega⟩,by simp only;omega,aE ⟨?_,trivial⟩ ?_⟩
    ·show _=OZ 9 n c f i (j+1);rw[OZ,mL,nP (j+1)];rfl
    simp[wk]
  have hjc:j=c:=by omega
  subst hjc;refine aD fun _ K=>?_;simp(disch:=omega) only[kd,slM];apply K
  refine bG rfl ?_;show bo _ _ _ _;rw[NW f hc1 hm];refine aL fun _ K=>?_;simp(disch:=omega) only[kd,aO];apply K
  refine⟨⟨i+1,by omega⟩,by simp only;omega,aE ⟨rfl,trivial⟩ ?_⟩;simp[wk]
 have hin:i=n:=by omega
 subst hin;refine aD fun _ K=>?_;simp(disch:=omega) only[kd,slM];apply K
 refine bG rfl ?_;show bo _ _ _ _;rw[NV];refine aD fun _ K=>?_;simp only[kd];apply K
 refine aH ⟨.inr rfl,_,ca.refl _,?_⟩;refine⟨.one (.sl 9 0 0 i),9,?_,rfl,?_,rfl⟩
 ·simp(disch:=omega) only[kd,Tryz.results54]
 exact(fP 9 0 _ _ _).symm
end Go.Proofs.YtfgeomlagfomgaaGreatDoor
