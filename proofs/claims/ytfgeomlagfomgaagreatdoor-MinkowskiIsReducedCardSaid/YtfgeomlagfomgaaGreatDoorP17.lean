/-
  Part 18 of a proof (walks and plain facts).
-/
import Derived.Test.YtfgeomlagfomgaaGreatDoorP16
set_option linter.all false
set_option maxRecDepth 100000
set_option maxHeartbeats 64000000
open Nat renaming reduceAdd → aa
open Go.Value renaming oneCell' → ab
open List renaming find?_cons → ac
open Go.Proofs.YtfgeomlagfomgaaGreatDoor.CallRes renaming plain → ae
open Nat renaming reduceEqDiff → af
open List renaming getElem?_cons_zero → ag
open List renaming getElem?_cons_succ → ah
open Nat renaming le_refl → ai
open List renaming replicate → aj
open Nat renaming reduceBEq → ak
open Option renaming map_some → am
open Option renaming bind_some → ao
open Int renaming reduceToNat → aw
open Option renaming map_none → ay
open List renaming mem_of_getElem? → aE
open List renaming getElem?_map → aH
namespace Go.Proofs.YtfgeomlagfomgaaGreatDoor
open Go.RowKit
structure L2 (M:List (List Int)) where
 i:Nat
 hi:i<=M.length
 ok: ∀r∈M.take i,r.length=(M.headD []).length
theorem FY (M:List (List Int)):CallC Tryz.prog 112 [dx M] ⟨[],Kv M⟩:=by
 by_cases h1:M.length<1
 ·rw[iv (fun h=>by have:=h.1;omega)]
  refine bG Tryz.func112 rfl (by kernel_rfl) ?_;rw[Tryz.ntmps112]
  (refine aL [] fun K hK=>?_;simp(disch:=omega) only[kc,aM,aa,dx,aj,aN,ab];apply hK)
  (refine aP (aL [] fun K hK=>?_);simp(disch:=omega) only[kc,aM,aa,be,aZ,bv,bE,aU,aO,aR,aX,aN,ab,aS,cw,bP,reduceCtorEq,ay,cQ,b7];apply hK)
  refine bJ rfl ?_
  (refine aL [] fun K hK=>?_;simp(disch:=omega) only[kc,aM,aa,aN,ab];apply hK)
  (refine bC ⟨.inr rfl,bF rfl ?_ rfl⟩;simp(disch:=omega) only[cH,Tryz.results112,eP,bH,ah,ag,ao,dF,am])
 by_cases h2:16<M.length
 ·rw[iv (fun h=>by have:=h.2.1;omega)]
  refine bG Tryz.func112 rfl (by kernel_rfl) ?_;rw[Tryz.ntmps112]
  (refine aL [] fun K hK=>?_;simp(disch:=omega) only[kc,aM,aa,dx,aj,aN,ab];apply hK)
  (refine aP (aL [] fun K hK=>?_);simp(disch:=omega) only[kc,aM,aa,be,aZ,bv,bE,aU,aO,aR,aX,aN,ab,aS,cp,bP,cQ,cw,b7];apply hK)
  refine bJ rfl ?_
  (refine aL [] fun K hK=>?_;simp(disch:=omega) only[kc,aM,aa,aN,ab];apply hK)
  (refine bC ⟨.inr rfl,bF rfl ?_ rfl⟩;simp(disch:=omega) only[cH,Tryz.results112,eP,bH,ah,ag,ao,dF,am])
 have h0:=mG (M:=M) (by omega)
 have hmem0:M.headD []∈M:=aE h0
 by_cases c1:(M.headD []).length<1
 ·rw[iv (fun h=>by have:=(h.2.2 _ hmem0).1;omega)]
  refine bG Tryz.func112 rfl (by kernel_rfl) ?_;rw[Tryz.ntmps112]
  (refine aL [] fun K hK=>?_;simp(disch:=omega) only[kc,aM,aa,dx,aj,aN,ab];apply hK)
  (refine aP (aL [] fun K hK=>?_);simp(disch:=omega) only[kc,aM,aa,be,aZ,bv,bE,aU,aO,aR,aX,aN,ab,aS,cp,bP,cQ,b7];apply hK)
  refine bL rfl (bi ?_)
  show da _ _ _ _
  (refine aL [] fun K hK=>?_;simp(disch:=omega) only[kc,aM,aa,aQ,aZ,aN,ab,aW,aw,bv,ch,h0,fR,db,packT,dc,be,ca,bE];apply hK)
  (refine aP (aL [] fun K hK=>?_);simp(disch:=omega) only[kc,aM,aa,aU,aO,aR,aX,aN,ab,aS,cw,bP,reduceCtorEq,cQ,ay,b7];apply hK)
  refine bJ rfl ?_
  (refine aL [] fun K hK=>?_;simp(disch:=omega) only[kc,aM,aa,aN,ab];apply hK)
  (refine bC ⟨.inr rfl,bF rfl ?_ rfl⟩;simp(disch:=omega) only[cH,Tryz.results112,eP,bH,ah,ag,ao,dF,am])
 by_cases c2:16<(M.headD []).length
 ·rw[iv (fun h=>by have:=(h.2.2 _ hmem0).2.1;omega)]
  refine bG Tryz.func112 rfl (by kernel_rfl) ?_;rw[Tryz.ntmps112]
  (refine aL [] fun K hK=>?_;simp(disch:=omega) only[kc,aM,aa,dx,aj,aN,ab];apply hK)
  (refine aP (aL [] fun K hK=>?_);simp(disch:=omega) only[kc,aM,aa,be,aZ,bv,bE,aU,aO,aR,aX,aN,ab,aS,cp,bP,cQ,b7];apply hK)
  refine bL rfl (bi ?_)
  show da _ _ _ _
  (refine aL [] fun K hK=>?_;simp(disch:=omega) only[kc,aM,aa,aQ,aZ,aN,ab,aW,aw,bv,ch,h0,fR,db,packT,dc,be,ca,bE];apply hK)
  (refine aP (aL [] fun K hK=>?_);simp(disch:=omega) only[kc,aM,aa,aU,aO,aR,aX,aN,ab,aS,cp,bP,cQ,cw,b7];apply hK)
  refine bJ rfl ?_
  (refine aL [] fun K hK=>?_;simp(disch:=omega) only[kc,aM,aa,aN,ab];apply hK)
  (refine bC ⟨.inr rfl,bF rfl ?_ rfl⟩;simp(disch:=omega) only[cH,Tryz.results112,eP,bH,ah,ag,ao,dF,am])
 refine bG Tryz.func112 rfl (by kernel_rfl) ?_;rw[Tryz.ntmps112]
 (refine aL [] fun K hK=>?_;simp(disch:=omega) only[kc,aM,aa,dx,aj,aN,ab];apply hK)
 (refine aP (aL [] fun K hK=>?_);simp(disch:=omega) only[kc,aM,aa,be,aZ,bv,bE,aU,aO,aR,aX,aN,ab,aS,cp,bP,cQ,b7];apply hK)
 refine bL rfl (bi ?_)
 show da _ _ _ _
 (refine aL [] fun K hK=>?_;simp(disch:=omega) only[kc,aM,aa,aQ,aZ,aN,ab,aW,aw,bv,ch,h0,fR,db,packT,dc,be,ca,bE];apply hK)
 (refine aP (aL [] fun K hK=>?_);simp(disch:=omega) only[kc,aM,aa,aU,aO,aR,aX,aN,ab,aS,cp,bP,cQ,b7];apply hK)
 refine bL rfl (bi ?_)
 show da _ _ _ _
 (refine aP (aL [] fun K hK=>?_);simp(disch:=omega) only[kc,aM,aa,be,aZ,bv,bE,aN,ab];apply hK)
 refine cC (G:=L2 M) (fun g=>⟨[dx M,jk,jk,jk,jk,.raw (.int .i64 ((M.headD []).length:Int)),jk,jk,jk,jk,jk,jk,jk,jk,jk,jk,jk,jk,jk,jk,jk,jk,jk,jk,jk,jk,dx M,.raw (.int .i64 (M.length:Int)),.raw (.int .i64 (g.i:Int)),jk,jk,jk,jk,jk,jk,jk,jk,jk,jk,jk],Hm []⟩) (fun g=>M.length-g.i) ⟨0,by omega,fun r hr=>by simp at hr⟩ ?_ ?_
 ·refine aT trivial ?_
  simp[di,b9,b8]
 rintro⟨i,hi,ok⟩
 simp only
 by_cases hm:i<M.length
 ·obtain⟨r,hr⟩:=getElem?_of_lt hm
  have hmem:r∈M:=aE hr
  (refine aL [] fun K hK=>?_;simp(disch:=omega) only[kc,aM,dx,Hm,aU,aO,aR,aX,aS,cw];apply hK)
  refine aP (bJ rfl (bi ?_))
  refine aP (bA ?_)
  (refine aL [] fun K hK=>?_;simp(disch:=omega) only[kc,aM,aa,aQ,aZ,aW,bv,ch,hr,fR,db,packT,dc];apply hK)
  by_cases c3:r.length=(M.headD []).length
  ·(refine aL [] fun K hK=>?_;simp(disch:=omega) only[kc,aM,aa,be,aZ,ca,bE,aU,aO,aR,aX,aS,cw];apply hK)
   refine bL rfl (bi ?_)
   show da _ _ _ _
   ((refine bK [] [] (by simp) fun K hK=>?_);simp(disch:=omega) only[kc,aM,aU,aO,aR,aX,aN,ab,aS,cd];apply hK)
   refine⟨⟨i+1,by omega,fun r' hr'=>?_⟩,by simp only;omega,aT trivial ?_⟩
   ·rw[List.take_add_one,hr]at hr'
    rcases List.mem_append.1 hr' with h|h
    ·exact ok r' h
    have:r'=r:=by simpa using h
    subst this
    exact c3
   simp[di,b9,b8]
  rw[iv (fun h=>by have:=(h.2.2 r hmem).2.2;omega)]
  (refine aL [] fun K hK=>?_;simp(disch:=omega) only[kc,aM,aa,be,aZ,ca,bE,aU,aO,aR,aX,aS,cp,Bool.not_false];apply hK)
  refine bJ rfl ?_
  (refine aL [] fun K hK=>?_;simp(disch:=omega) only[kc,aM,aa,aN,ab];apply hK)
  (refine bC ⟨.inr rfl,bF rfl ?_ rfl⟩;simp(disch:=omega) only[cH,Tryz.results112,eP,bH,ah,ag,ao,dF,am])
 have hsh:Ap M:=⟨by omega,by omega,fun r hr=>by
  have:=ok r (by rw[List.take_of_length_le (by omega)];exact hr)
  exact⟨by omega,by omega,this⟩⟩
 rw[nE hsh]
 (refine aL [] fun K hK=>?_;simp(disch:=omega) only[kc,aM,dx,Hm,aU,aO,aR,aX,aS,cp];apply hK)
 refine aP (bL rfl (ck ?_))
 show da _ _ _ _
 (refine aL [] fun K hK=>?_;simp(disch:=omega) only[kc,aM,aa,be,aZ,bv,bE,aN,ab];apply hK)
 (refine bC ⟨.inr rfl,bF rfl ?_ rfl⟩;simp(disch:=omega) only[cH,Tryz.results112,eP,bH,ah,ag,ao,dF,am])
theorem FZ (M:List (List Int)):CallC Tryz.prog 159 [eF M] ⟨[],Kv M⟩:=by
 by_cases h1:M.length<1
 ·rw[iv (fun h=>by have:=h.1;omega)]
  refine bG Tryz.func159 rfl (by kernel_rfl) ?_;rw[Tryz.ntmps159]
  (refine aL [] fun K hK=>?_;simp(disch:=omega) only[kc,aM,aa,eF,aj,aN,ab];apply hK)
  (refine aP (aL [] fun K hK=>?_);simp(disch:=omega) only[kc,aM,aa,be,aZ,cb,bE,aU,aO,aR,aX,aN,ab,aS,cw,bP,reduceCtorEq,ay,cQ,b7];apply hK)
  refine bJ rfl ?_
  (refine aL [] fun K hK=>?_;simp(disch:=omega) only[kc,aM,aa,aN,ab];apply hK)
  (refine bC ⟨.inr rfl,bF rfl ?_ rfl⟩;simp(disch:=omega) only[cH,Tryz.results159,eP,bH,ah,ag,ao,dF,am])
 by_cases h2:16<M.length
 ·rw[iv (fun h=>by have:=h.2.1;omega)]
  refine bG Tryz.func159 rfl (by kernel_rfl) ?_;rw[Tryz.ntmps159]
  (refine aL [] fun K hK=>?_;simp(disch:=omega) only[kc,aM,aa,eF,aj,aN,ab];apply hK)
  (refine aP (aL [] fun K hK=>?_);simp(disch:=omega) only[kc,aM,aa,be,aZ,cb,bE,aU,aO,aR,aX,aN,ab,aS,cp,bP,cQ,cw,b7];apply hK)
  refine bJ rfl ?_
  (refine aL [] fun K hK=>?_;simp(disch:=omega) only[kc,aM,aa,aN,ab];apply hK)
  (refine bC ⟨.inr rfl,bF rfl ?_ rfl⟩;simp(disch:=omega) only[cH,Tryz.results159,eP,bH,ah,ag,ao,dF,am])
 have h0:=mG (M:=M) (by omega)
 have hmem0:M.headD []∈M:=aE h0
 by_cases c1:(M.headD []).length<1
 ·rw[iv (fun h=>by have:=(h.2.2 _ hmem0).1;omega)]
  refine bG Tryz.func159 rfl (by kernel_rfl) ?_;rw[Tryz.ntmps159]
  (refine aL [] fun K hK=>?_;simp(disch:=omega) only[kc,aM,aa,eF,aj,aN,ab];apply hK)
  (refine aP (aL [] fun K hK=>?_);simp(disch:=omega) only[kc,aM,aa,be,aZ,cb,bE,aU,aO,aR,aX,aN,ab,aS,cp,bP,cQ,b7];apply hK)
  refine bL rfl (bi ?_)
  show da _ _ _ _
  (refine aL [] fun K hK=>?_;simp(disch:=omega) only[kc,aM,aa,aQ,aZ,aN,ab,aW,aw,cb,ch,h0,fR,dy,packT,dD,be,cE,bE];apply hK)
  (refine aP (aL [] fun K hK=>?_);simp(disch:=omega) only[kc,aM,aa,aU,aO,aR,aX,aN,ab,aS,cw,bP,reduceCtorEq,cQ,ay,b7];apply hK)
  refine bJ rfl ?_
  (refine aL [] fun K hK=>?_;simp(disch:=omega) only[kc,aM,aa,aN,ab];apply hK)
  (refine bC ⟨.inr rfl,bF rfl ?_ rfl⟩;simp(disch:=omega) only[cH,Tryz.results159,eP,bH,ah,ag,ao,dF,am])
 by_cases c2:16<(M.headD []).length
 ·rw[iv (fun h=>by have:=(h.2.2 _ hmem0).2.1;omega)]
  refine bG Tryz.func159 rfl (by kernel_rfl) ?_;rw[Tryz.ntmps159]
  (refine aL [] fun K hK=>?_;simp(disch:=omega) only[kc,aM,aa,eF,aj,aN,ab];apply hK)
  (refine aP (aL [] fun K hK=>?_);simp(disch:=omega) only[kc,aM,aa,be,aZ,cb,bE,aU,aO,aR,aX,aN,ab,aS,cp,bP,cQ,b7];apply hK)
  refine bL rfl (bi ?_)
  show da _ _ _ _
  (refine aL [] fun K hK=>?_;simp(disch:=omega) only[kc,aM,aa,aQ,aZ,aN,ab,aW,aw,cb,ch,h0,fR,dy,packT,dD,be,cE,bE];apply hK)
  (refine aP (aL [] fun K hK=>?_);simp(disch:=omega) only[kc,aM,aa,aU,aO,aR,aX,aN,ab,aS,cp,bP,cQ,cw,b7];apply hK)
  refine bJ rfl ?_
  (refine aL [] fun K hK=>?_;simp(disch:=omega) only[kc,aM,aa,aN,ab];apply hK)
  (refine bC ⟨.inr rfl,bF rfl ?_ rfl⟩;simp(disch:=omega) only[cH,Tryz.results159,eP,bH,ah,ag,ao,dF,am])
 refine bG Tryz.func159 rfl (by kernel_rfl) ?_;rw[Tryz.ntmps159]
 (refine aL [] fun K hK=>?_;simp(disch:=omega) only[kc,aM,aa,eF,aj,aN,ab];apply hK)
 (refine aP (aL [] fun K hK=>?_);simp(disch:=omega) only[kc,aM,aa,be,aZ,cb,bE,aU,aO,aR,aX,aN,ab,aS,cp,bP,cQ,b7];apply hK)
 refine bL rfl (bi ?_)
 show da _ _ _ _
 (refine aL [] fun K hK=>?_;simp(disch:=omega) only[kc,aM,aa,aQ,aZ,aN,ab,aW,aw,cb,ch,h0,fR,dy,packT,dD,be,cE,bE];apply hK)
 (refine aP (aL [] fun K hK=>?_);simp(disch:=omega) only[kc,aM,aa,aU,aO,aR,aX,aN,ab,aS,cp,bP,cQ,b7];apply hK)
 refine bL rfl (bi ?_)
 show da _ _ _ _
 (refine aP (aL [] fun K hK=>?_);simp(disch:=omega) only[kc,aM,aa,be,aZ,cb,bE,aN,ab];apply hK)
 refine cC (G:=L2 M) (fun g=>⟨[eF M,jk,jk,jk,jk,.raw (.int .i64 ((M.headD []).length:Int)),jk,jk,jk,jk,jk,jk,jk,jk,jk,jk,jk,jk,jk,jk,jk,jk,jk,jk,jk,jk,eF M,.raw (.int .i64 (M.length:Int)),.raw (.int .i64 (g.i:Int)),jk,jk,jk,jk,jk,jk,jk,jk,jk,jk,jk],Hm []⟩) (fun g=>M.length-g.i) ⟨0,by omega,fun r hr=>by simp at hr⟩ ?_ ?_
 ·refine aT trivial ?_
  simp[di,b9,b8]
 rintro⟨i,hi,ok⟩
 simp only
 by_cases hm:i<M.length
 ·obtain⟨r,hr⟩:=getElem?_of_lt hm
  have hmem:r∈M:=aE hr
  (refine aL [] fun K hK=>?_;simp(disch:=omega) only[kc,aM,eF,Hm,aU,aO,aR,aX,aS,cw];apply hK)
  refine aP (bJ rfl (bi ?_))
  refine aP (bA ?_)
  (refine aL [] fun K hK=>?_;simp(disch:=omega) only[kc,aM,aa,aQ,aZ,aW,cb,ch,hr,fR,dy,packT,dD];apply hK)
  by_cases c3:r.length=(M.headD []).length
  ·(refine aL [] fun K hK=>?_;simp(disch:=omega) only[kc,aM,aa,be,aZ,cE,bE,aU,aO,aR,aX,aS,cw];apply hK)
   refine bL rfl (bi ?_)
   show da _ _ _ _
   ((refine bK [] [] (by simp) fun K hK=>?_);simp(disch:=omega) only[kc,aM,aU,aO,aR,aX,aN,ab,aS,cd];apply hK)
   refine⟨⟨i+1,by omega,fun r' hr'=>?_⟩,by simp only;omega,aT trivial ?_⟩
   ·rw[List.take_add_one,hr]at hr'
    rcases List.mem_append.1 hr' with h|h
    ·exact ok r' h
    have:r'=r:=by simpa using h
    subst this
    exact c3
   simp[di,b9,b8]
  rw[iv (fun h=>by have:=(h.2.2 r hmem).2.2;omega)]
  (refine aL [] fun K hK=>?_;simp(disch:=omega) only[kc,aM,aa,be,aZ,cE,bE,aU,aO,aR,aX,aS,cp,Bool.not_false];apply hK)
  refine bJ rfl ?_
  (refine aL [] fun K hK=>?_;simp(disch:=omega) only[kc,aM,aa,aN,ab];apply hK)
  (refine bC ⟨.inr rfl,bF rfl ?_ rfl⟩;simp(disch:=omega) only[cH,Tryz.results159,eP,bH,ah,ag,ao,dF,am])
 have hsh:Ap M:=⟨by omega,by omega,fun r hr=>by
  have:=ok r (by rw[List.take_of_length_le (by omega)];exact hr)
  exact⟨by omega,by omega,this⟩⟩
 rw[nE hsh]
 (refine aL [] fun K hK=>?_;simp(disch:=omega) only[kc,aM,eF,Hm,aU,aO,aR,aX,aS,cp];apply hK)
 refine aP (bL rfl (ck ?_))
 show da _ _ _ _
 (refine aL [] fun K hK=>?_;simp(disch:=omega) only[kc,aM,aa,be,aZ,cb,bE,aN,ab];apply hK)
 (refine bC ⟨.inr rfl,bF rfl ?_ rfl⟩;simp(disch:=omega) only[cH,Tryz.results159,eP,bH,ah,ag,ao,dF,am])
theorem J1 (a b:Int) (ha:Bg a) (hb:Bg b):CallC Tryz.prog 117 [tZ a,tZ b] ⟨[],.raw (.int .i64 (th a b))⟩:=by
 have h1:=qJ a ha
 have h2:=qJ b hb
 have t1:=gk (bT a.natAbs) ha.len
 have t2:=gk (bT b.natAbs) hb.len
 rw[jh]at t1 t2
 have h3:=n5 (bT a.natAbs) (bT b.natAbs) (ce _) (ce _) (dV _) (dV _) ha.len hb.len
 rw[bN,bN]at h3
 have r1:=pt a
 have r2:=pt b
 have r3:=rA a.natAbs b.natAbs
 have r4: -1<=sg a*ir a.natAbs b.natAbs/\sg a*ir a.natAbs b.natAbs<=1:=by
  have:sg a= -1\/sg a=0\/sg a=1:=by omega
  rcases this with h|h|h<;>rw[h]<;>omega
 by_cases hs:sg a=sg b
 ·rw[AB hs]
  refine bG Tryz.func117 rfl (by kernel_rfl) ?_;rw[Tryz.ntmps117]
  (refine aL [] fun K hK=>?_;simp(disch:=omega) only[kc,aM,aa,tZ,aj,dP,bU,bI,cellsOf,isPure,cQ,bD,af,aN,ab];apply hK)
  (refine cL cJ [⟨1,_,_,_,h1⟩,⟨3,_,_,_,h2⟩] [] (by kernel_rfl) (by simp) fun K hK=>?_;simp(disch:=omega) only[kc,tZ,bj.a,aM,aa,aZ,bD,af,packT,bS,cf,ai,aY,bU,bI,ac,bO,cq,ae,bV,bW,bs,isPure,noRefTV,bf,bQ,bM,ak];apply hK)
  refine aP (bA ?_)
  (refine aL [] fun K hK=>?_;simp(disch:=omega) only[kc,aM,aa,aU,aO,aR,aX,aS,cp];apply hK)
  refine bL rfl ?_
  (refine aL [] fun K hK=>?_;simp(disch:=omega) only[kc,aM,aa,aU,aO,aR,aX,aS,cp];apply hK)
  refine bL rfl (bi ?_)
  show da _ _ _ _
  (refine cL cJ [⟨3,_,_,_,t1⟩,⟨6,_,_,_,t2⟩,⟨7,_,_,_,h3⟩] [] (by kernel_rfl) (by simp) fun K hK=>?_;simp(disch:=omega) only[kc,de,bj.a,aM,aa,bY,aZ,df,dU,bD,af,packT,dG,aY,bU,bI,ac,bO,cq,ae,bV,bW,bs,noRefTV,bf,bQ,bM,ak,aU,aO,aR,aX,aS,cd];apply hK)
  (refine bC ⟨.inr rfl,bF rfl ?_ rfl⟩;simp(disch:=omega) only[cH,Tryz.results117,bH,ah,ag])
 rw[AC hs]
 refine bG Tryz.func117 rfl (by kernel_rfl) ?_;rw[Tryz.ntmps117]
 (refine aL [] fun K hK=>?_;simp(disch:=omega) only[kc,aM,aa,tZ,aj,dP,bU,bI,cellsOf,isPure,cQ,bD,af,aN,ab];apply hK)
 (refine cL cJ [⟨1,_,_,_,h1⟩,⟨3,_,_,_,h2⟩] [] (by kernel_rfl) (by simp) fun K hK=>?_;simp(disch:=omega) only[kc,tZ,bj.a,aM,aa,aZ,bD,af,packT,bS,cf,ai,aY,bU,bI,ac,bO,cq,ae,bV,bW,bs,isPure,noRefTV,bf,bQ,bM,ak];apply hK)
 refine aP (bA ?_)
 (refine aL [] fun K hK=>?_;simp(disch:=omega) only[kc,aM,aa,aU,aO,aR,aX,aS];apply hK)
 by_cases hlt:sg a<sg b
 ·rw[if_pos hlt]
  refine bJ rfl ?_
  (refine aL [] fun K hK=>?_;simp(disch:=omega) only[kc,aM,cw,aN,ab];apply hK)
  (refine bC ⟨.inr rfl,bF rfl ?_ rfl⟩;simp(disch:=omega) only[cH,Tryz.results117,bH,ah,ag])
 rw[if_neg hlt]
 refine bL rfl ?_
 (refine aL [] fun K hK=>?_;simp(disch:=omega) only[kc,aM,aa,cp,aU,aO,aR,aX,aS,cw];apply hK)
 refine bJ rfl ?_
 (refine aL [] fun K hK=>?_;simp(disch:=omega) only[kc,aM,aN,ab];apply hK)
 (refine bC ⟨.inr rfl,bF rfl ?_ rfl⟩;simp(disch:=omega) only[cH,Tryz.results117,bH,ah,ag])
theorem Fh (n:Nat) (f:Nat->Nat->Int) (hn1:1<=n) (hn:n<=16):CallC Tryz.prog 143 [eF (dC n n f)] ⟨[],.tup [(false,[.p (.raw (.int .i64 (n:Int)))]),(false,[.p (.raw (.int .i64 (n:Int)))]),(false,[.p (.raw (.bool true))])]⟩:=by
 have hS:=FZ (dC n n f)
 rw[nE (Bf f hn1 hn hn1 hn),cT,oS f hn1]at hS
 refine bG Tryz.func143 rfl (by kernel_rfl) ?_;rw[Tryz.ntmps143]
 (refine aL [] fun K hK=>?_;simp(disch:=omega) only[kc,aM,aa,eF,aj,aN,ab];apply hK)
 (refine aL [⟨1,_,_,_,hS⟩] fun K hK=>?_;simp(disch:=omega) only[kc,eF,bj.a,aM,aa,aY,bU,bI,ac,bO,cq,ae,bV,bW,bs,noRefTV,bf,bQ,bM,cK,aU];apply hK)
 (refine bC ⟨.inr rfl,bF rfl ?_ rfl⟩;simp(disch:=omega) only[cH,Tryz.results143,eP,bH,ah,ag,ao,dF,am])
theorem uC (n:Nat) (f:Nat->Nat->Int) (hn1:1<=n) (hn:n<=16):CallC Tryz.prog 116 [eF (dC n n f)] ⟨[],.tup [(false,[.p (.raw (.int .i64 (n:Int)))]),(false,[.p (.raw (.bool true))])]⟩:=by
 have hS:=Fh n f hn1 hn
 refine bG Tryz.func116 rfl (by kernel_rfl) ?_;rw[Tryz.ntmps116]
 (refine aL [] fun K hK=>?_;simp(disch:=omega) only[kc,aM,eF,aj,aN,ab];apply hK)
 (refine aL [⟨1,_,_,_,hS⟩] fun K hK=>?_;simp(disch:=omega) only[kc,eF,bj.a,aM,aa,aY,bU,bI,ac,bO,cq,ae,bV,bW,bs,noRefTV,bf,bQ,bM,cK,aU];apply hK)
 (refine aL [] fun K hK=>?_;simp(disch:=omega) only[kc,aM,aa,bP,aU,aO,aR,aX,aS,cw,cQ,b7];apply hK)
 (refine bC ⟨.inr rfl,bF rfl ?_ rfl⟩;simp(disch:=omega) only[cH,Tryz.results116,eP,bH,ah,ag,ao,dF,am])
theorem Hc (a b c d e:Int) (s:Nat) (hs:s<=67174400) (ha:Sz a s) (hb:Sz b s) (hc:Sz c s) (hd:Sz d s) (he:Sz e s) (he0:e≠0):
  CallC Tryz.prog 150 [tZ a,tZ b,tZ c,tZ d,tZ e] ⟨[],tZ ((a*d-b*c)/e)⟩:=by
 have s1:=ha.mul hd
 have s2:=hb.mul hc
 have s3:=s1.sub s2
 have h1:=EA a d (ha.mono (by omega)) (hd.mono (by omega))
 have h2:=EA b c (hb.mono (by omega)) (hc.mono (by omega))
 have h3:=J2 (a*d) (b*c) (s1.mono (by omega)) (s2.mono (by omega))
 have h4:=CB (a*d-b*c) e he0 (s3.mono (by omega)) (he.mono (by omega))
 refine bG Tryz.func150 rfl (by kernel_rfl) ?_;rw[Tryz.ntmps150]
 (refine aL [] fun K hK=>?_;simp(disch:=omega) only[kc,aM,aa,tZ,aj,dP,bU,bI,cellsOf,isPure,cQ,bD,af,d4,cy,cx,ab];apply hK)
 refine da.weak (aT (tm:=[jk,jk,jk,jk,jk,.one (.ptr 5 0 0 0),.one (.ptr 6 0 0 0),.one (.ptr 7 0 0 0),.one (.ptr 8 0 0 0),.one (.ptr 9 0 0 0),.one (.ptr 10 0 0 0),jk,jk,jk,jk,jk,jk,jk,jk,jk,jk,jk,jk,jk,jk,jk,jk,jk]) (l:=[(5,yX a),(6,yX b),(7,yX c),(8,yX d),(9,yX e),(10,yW)]) ⟨rfl,rfl,rfl,rfl,rfl,rfl,trivial⟩ (by simp[di,b9,b8])) ?_
 (refine cL cJ [⟨2,_,_,_,h1⟩,⟨5,_,_,_,h2⟩,⟨6,_,_,_,h3⟩,⟨8,_,_,_,h4⟩] [] (by kernel_rfl) (by simp) fun K hK=>?_;simp(disch:=omega) only[kc,tZ,cZ,bj.a,aM,aa,Hm,aZ,af,d4,packT,bS,cf,ai,aY,bU,bI,ac,bO,cq,ae,bV,bW,bs,isPure,noRefTV,bf,bQ,bM,ak,cK,aU,cy,cx,ab,cQ,bD,bo,ew,cU,cellsOf,bu,bz,bx];apply hK)
 (refine aL [] fun K hK=>?_;simp(disch:=omega) only[kc,aM,aZ,bD,af,d4,packT,bS,cf,aa,ai,bo,ew,cU,cellsOf,isPure,cQ,bu,bz,bx];apply hK)
 (refine bC ⟨.inr rfl,bF rfl ?_ rfl⟩;simp(disch:=omega) only[kc,cH,Tryz.results150,bH,bD,af,d4,packT,bS,cf,aa,ai,tZ])
abbrev ry (M:List (List Int)):List PV:=[.sl (ls (fR fZ) M)]
theorem KC {n:Nat} {f:Nat->Nat->Int} {i j:Nat} (hi:i<n) (hj:j<n) (hn:n<=16) (hf:Bg (f i j)):
  CallC Tryz.prog 147 [.raw (.int .i64 (i:Int)),.raw (.int .i64 (j:Int)),.one (.p (.ptr (ry (dC n n f))))] ⟨[],tZ (f i j)⟩:=by
 have hr:=dm n f hi
 have hjr:=cu (f i) hj
 have hS:=vI (f i j) hf
 refine bG Tryz.func147 rfl (by kernel_rfl) ?_;rw[Tryz.ntmps147]
 (refine aL [] fun K hK=>?_;simp(disch:=omega) only[kc,aM,aa,aj,cy,bU,bI,cx,ab,cQ];apply hK)
 (refine aL [⟨7,_,_,_,hS⟩] fun K hK=>?_;simp(disch:=omega) only[kc,tZ,bj.a,aM,aa,aZ,packT,mj,m0,aQ,aW,cb,ch,hr,fR,dy,dD,cE,hjr,fZ,bS,cf,ai,aY,bU,bI,ac,bO,cq,ae,bV,bW,bs,isPure,noRefTV,bf,bQ,bM,bo,ew,cU,bD,cellsOf,cQ,bu,bz,bx];apply hK)
 (refine bC ⟨.inr rfl,bF rfl ?_ rfl⟩;simp(disch:=omega) only[kc,cH,Tryz.results147,bH,bD,d4,packT,bS,cf,aa,ai,tZ])
theorem KD (b:Nat) {m:Nat} {g:Nat->Nat->Int} {last:Int} {i j:Nat} (hi:i+1<m) (hj:j+1<m) (hm:m<=16) (s:Nat) (hs:s<=67174400) (hg: ∀i j,i<m->j<m->Sz (g i j) s) (hl:Sz last s) (hl0:last≠0):
  CallT Tryz.prog b 42 149 [.raw (.int .i64 (i:Int)),.raw (.int .i64 (j:Int)),.one (.p (.ptr (ry (dC m m g)))),.raw (.pointer (some ⟨b,0,none⟩))] (fZ last)
   ⟨[],tZ ((g 0 0*g (i+1) (j+1)-g (i+1) 0*g 0 (j+1))/last)⟩ (fZ last):=by
 have r0:=dm m g (show 0<m by omega)
 have r1:=dm m g hi
 have c00:=cu (g 0) (show 0<m by omega)
 have c0j:=cu (g 0) hj
 have ci0:=cu (g (i+1)) (show 0<m by omega)
 have cij:=cu (g (i+1)) hj
 have e1:((i:Int)+1).toNat=i+1:=by omega
 have e2:((j:Int)+1).toNat=j+1:=by omega
 have hC:=Hc (g 0 0) (g (i+1) 0) (g 0 (j+1)) (g (i+1) (j+1)) last s hs (hg _ _ (by omega) (by omega)) (hg _ _ hi (by omega)) (hg _ _ (by omega) hj) (hg _ _ hi hj) hl hl0
 refine w8 Tryz.func149 rfl (by kernel_rfl) ?_;rw[Tryz.ntmps149]
 refine DP 3 900 rfl rfl ?_
 refine gZ.weak (aT (tm:=[.raw (.int .i64 (i:Int)),.raw (.int .i64 (j:Int)),.one (.p (.ptr (ry (dC m m g)))),.one (.ptr 900 0 0 0),jk,jk,jk,jk,jk,jk,jk,jk,jk,jk,jk,jk,jk,jk,jk,jk,jk,jk,jk,jk,jk,jk,jk,jk,jk,jk,jk,jk,jk,jk,jk,jk,jk]) (l:=[(900,yX last)]) ⟨rfl,trivial⟩ (by simp[di,b9,b8,DW,vm,aj])) ?_
 (refine cn [] [] (by kernel_rfl) (by simp) fun K hK=>?_;simp(disch:=omega) only[kc,aM,Hm,cy,bU,bI,cx,ab,aa,cQ,af];apply hK)
 (refine gQ cJ [⟨29,_,_,_,hC⟩] [] (by kernel_rfl) (by kernel_rfl) (by simp) fun K hK=>?_;simp(disch:=omega) only[kc,tZ,bj.a,aM,aa,aZ,packT,mj,m0,aQ,aN,ab,aW,aw,cb,ch,r0,fR,dy,dD,cE,c00,fZ,bS,cf,ai,aU,aO,aR,aX,aS,cd,e1,r1,ci0,e2,c0j,cij,bD,af,aY,bU,bI,ac,bO,cq,ae,bV,bW,bs,isPure,noRefTV,bf,bQ,bM,bo,ew,cU,cellsOf,cQ,bu,bz,bx];apply hK)
 refine m7 ⟨fZ last,rfl,rfl,.inr rfl,rfl,bF rfl ?_ rfl⟩
 simp(disch:=omega) only[kc,cH,Tryz.results149,bH,xF,pS,cQ,af,bD,d4,packT,bS,cf,aa,ai,tZ]
theorem JZ {s:AS} {w0 w:World} {O X:Nat->Prop} {ρ:Rho} {act:Act} (a:Nat) (hok:tn s.H a) (hinv:Inv w0 O X s.H ρ w) (htm:dN X ρ s act w):Inv w0 O X (bD s.H a []) ρ w/\dN X ρ ⟨s.tmps.map (gT s.H a),bD s.H a []⟩ act w:=by
 have hna: ∀(x y:Nat) o,(bD s.H a [] x)[y]?=some o->x≠a/\(s.H x)[y]?=some o:=fun x y o ho=>by
  by_cases hx:x=a
  ·subst hx;rw[dr]at ho;simp at ho
  rw[cz hx]at ho;exact⟨hx,ho⟩
 have hXo: ∀b,Xo X ρ (bD s.H a []) b->Xo X ρ s.H b:=fun b hb=>by
  rcases hb with hb|⟨x,y,o,n,g1,g2⟩
  ·exact .inl hb
  exact .inr ⟨x,y,o,n,(hna x y o g1).2,g2⟩
 have hZb: ∀(r:Nat) o,(s.H a)[r]?=some o-> ∀b c,ρ a r=some (b,c)-> ¬Xo X ρ (bD s.H a []) b:=fun r o ho b c hr hX=>by
  rcases hX with hX|⟨x,y,o',n,g1,g2⟩
  ·exact(hinv.old a r o b c ho hr).2 hX
  obtain⟨hx,g1'⟩:=hna x y o' g1
  exact hx (hinv.inj x y a r o' o b n c g1' ho g2 hr).1
 have hpure: ∀x u,isPure x=true->AV.rel ρ s.H (Xo X ρ s.H) w x u->ee (Xo X ρ (bD s.H a [])) w (lI x) u:=fun x u hp h=>by
  cases x<;>first|exact ee.weaken (fun b _ hb=>hXo b hb) h|cases hp
 have hcell: ∀(r:Nat) o,(s.H a)[r]?=some o-> ∀e∈o.elems,∀x∈e,∀u,AV.rel ρ s.H (Xo X ρ s.H) w x u->ee (Xo X ρ (bD s.H a [])) w (kn s.H a x) u:=fun r o ho e he x hx u hu=>by
  rcases hok r o ho e he x hx with hp|⟨r',off,len,o',rfl,ho',hpr⟩
  ·have:=hpure x u hp hu
   cases x<;>first|exact this|cases hp
  simp only[kn,ho']
  exact nw (hinv.objs a r' o' ho') ho' (fun e he y hy u hu=>hpure y u (hpr e he y hy) hu) (hZb r' o' ho') hu
 have hmap: ∀x v,AV.rel ρ s.H (Xo X ρ s.H) w x v->AV.rel ρ (bD s.H a []) (Xo X ρ (bD s.H a [])) w (gh s.H a x) v:=fun x v h=>by
  cases x with
  |p x=>exact ee.weaken (fun b _ hb=>hXo b hb) h
  |sl b r off len=>
   simp only[gh]
   by_cases hb:b=a
   ·subst hb
    rw[if_pos rfl]
    have h':=h
    obtain⟨o,g1,g2,g3⟩:=h
    rw[g1]
    exact nw (hinv.objs b r o g1) g1 (hcell r o g1) (hZb r o g1) h'
   rw[if_neg hb]
   obtain⟨o,g1,g2⟩:=h
   exact⟨o,by rw[cz hb];exact g1,g2⟩
  |ptr b r i j=>
   simp only[gh]
   by_cases hb:b=a
   ·subst hb;rw[if_pos rfl];trivial
   rw[if_neg hb]
   obtain⟨o,b',c,g1,g2⟩:=h
   exact⟨o,b',c,by rw[cz hb];exact g1,g2⟩
  |junk=>trivial
 have hagg: ∀cs v,dL ρ s.H (Xo X ρ s.H) w cs v->dL ρ (bD s.H a []) (Xo X ρ (bD s.H a [])) w (cs.map (gh s.H a)) v:=fun cs v h=>by
  obtain⟨vs,g1,g2,g3⟩:=h
  refine⟨vs,g1,by simpa using g2,fun j x hx=>?_⟩
  rw[aH]at hx
  obtain⟨y,hy,rfl⟩:=Option.map_eq_some_iff.1 hx
  obtain⟨u,u1,u2,u3⟩:=g3 j y hy
  exact⟨u,u1,u2,hmap y u u3⟩
 refine⟨⟨hinv.keep,fun x y o ho=>?_,fun x y x' y' o o' b c c' ho ho'=>hinv.inj x y x' y' o o' b c c' (hna x y o ho).2 (hna x' y' o' ho').2,fun x y o b c ho=>hinv.old x y o b c (hna x y o ho).2,hinv.bar,fun x y o ho=>hinv.self x y o (hna x y o ho).2⟩,fun t x hx=>?_⟩
 ·obtain⟨hx,ho'⟩:=hna x y o ho
  obtain⟨q1,q2,q3⟩:=hinv.objs x y o ho'
  refine⟨q1,q2,?_⟩
  cases hr:ρ x y with
  |none=>rw[hr]at q3;exact q3
  |some bc=>
   obtain⟨b,c⟩:=bc
   rw[hr]at q3
   obtain⟨cells,p1,p2,p3,p4,p5⟩:=q3
   refine⟨cells,p1,p2,p3,p4,fun i e j z he hz=>?_⟩
   obtain⟨u,u1,u2,u3⟩:=p5 i e j z he hz
   have hs:=hinv.self x y o ho' e (aE he) z (aE hz)
   have:=hmap z u u3
   refine⟨u,u1,u2,?_⟩
   cases z with
   |sl z _ _ _=>have hs:z=x:=hs;subst hs;simpa[gh,hx] using this
   |ptr z _ _ _=>have hs:z=x:=hs;subst hs;simpa[gh,hx] using this
   |p z=>exact this
   |junk=>trivial
 simp only[aH]at hx
 obtain⟨y,hy,rfl⟩:=Option.map_eq_some_iff.1 hx
 obtain⟨v,v1,v2⟩:=htm t y hy
 refine⟨v,v1,?_⟩
 cases y with
 |one x=>exact hmap x v v2
 |agg cs=>exact hagg cs v v2
 |fn f cs=>obtain⟨u,h1,h2⟩:=v2;exact⟨u,hagg cs u h1,h2⟩
 |tup ts=>
  obtain⟨vs,g1,g2,g3⟩:=v2
  refine⟨vs,g1,by simpa using g2,fun j b cs hj=>?_⟩
  rw[aH]at hj
  obtain⟨z,hz,hzz⟩:=Option.map_eq_some_iff.1 hj
  obtain⟨b',cs'⟩:=z
  simp at hzz
  obtain⟨rfl,rfl⟩:=hzz
  obtain⟨u,u1,u2⟩:=g3 j b' cs' hz
  refine⟨u,u1,?_⟩
  rcases u2 with⟨u2,u3⟩|⟨u2,q,rfl,u4⟩
  ·exact .inl ⟨u2,hagg _ _ u3⟩
  exact .inr ⟨u2,_,rfl,hmap q u u4⟩
theorem oC {s:AS} (a k:Nat) {ty:TypeId} {es:Nat} {cs:List PV} (hH:s.H a=[⟨ty,es,[cs.map AV.p]⟩]) (hk:s.tmps[k]?=some (.one (.ptr a 0 0 0))):eg s ⟨(s.tmps.map (gT s.H a)).set k (.one (.p (.ptr cs))),bD s.H a []⟩:=by
 rintro w0 O X act w ⟨h1,hsz,ρ,hinv,htm⟩
 have htm:dN X ρ s act w:=htm
 have hrow:(s.H a)[0]?=some ⟨ty,es,[cs.map AV.p]⟩:=by rw[hH];rfl
 have hok:tn s.H a:=fun r o ho e he x hx=>by
  rw[hH]at ho
  cases r with
  |succ r=>simp at ho
  |zero=>
   simp at ho
   subst ho
   simp at he
   subst he
   obtain⟨y,_,rfl⟩:=List.mem_map.1 hx
   exact .inl rfl
 obtain⟨hinv',htm'⟩:=JZ a hok hinv htm
 refine⟨h1,by simpa using hsz,ρ,hinv',fun t x hx=>?_⟩
 by_cases e:t=k
 ·subst e
  simp only at hx
  have hlt:=(List.getElem?_eq_some_iff.1 hk).1
  rw[List.getElem?_set_self (by simpa using hlt)]at hx
  injection hx with hx
  subst hx
  obtain⟨v,v1,o,b,c,g1,g2,g3,rfl⟩:=htm t _ hk
  rw[hrow]at g1
  injection g1 with g1
  subst g1
  refine⟨_,v1,?_⟩
  obtain⟨q1,q2,q3⟩:=hinv.objs a 0 _ hrow
  rw[g2]at q3
  obtain⟨cells,p1,p2,p3,p4,p5⟩:=q3
  have hXo: ∀b,Xo X ρ (bD s.H a []) b->Xo X ρ s.H b:=fun b hb=>by
   rcases hb with hb|⟨x,y,o,n,g1,g2⟩
   ·exact .inl hb
   by_cases hx:x=a
   ·subst hx;rw[dr]at g1;simp at g1
   rw[cz hx]at g1;exact .inr ⟨x,y,o,n,g1,g2⟩
  have hnb: ¬Xo X ρ (bD s.H a []) b:=fun hX=>by
   rcases hX with hX|⟨x,y,o',n,g1,g3⟩
   ·exact(hinv.old a 0 _ b c hrow g2).2 hX
   by_cases hx:x=a
   ·subst hx;rw[dr]at g1;simp at g1
   rw[cz hx]at g1
   exact hx (hinv.inj x y a 0 o' _ b n c g1 hrow g3 g2).1
  show ee _ w (.ptr cs) _
  rw[show(0:Nat)*(⟨ty,es,[cs.map AV.p]⟩:OObj).es+0=0 by simp]
  have hkey: ∀(j:Nat) x,cs[j]?=some x-> ∃u:Value,cells[j]?=some u/\ee (Xo X ρ (bD s.H a [])) w x u:=fun j x hx=>by
   obtain⟨u,u1,u2,u3⟩:=p5 0 (cs.map AV.p) j (.p x) rfl (by rw[aH,hx];rfl)
   refine⟨u,by simpa using u1,ee.weaken (fun b _ hb=>hXo b hb) u3⟩
  refine ee.ptr b 0 cs (fun j=>(cells[j]?).getD undef) hnb (Array.getElem?_eq_some_iff.1 p1).1 (fun j x hx=>?_) (fun j x hx=>?_)
  ·obtain⟨u,u1,u2⟩:=hkey j x hx
   rw[cell_of_row _ b _ cells _ _ p1,Nat.zero_add,u1];rfl
  obtain⟨u,u1,u2⟩:=hkey j x hx
  simp only[u1,Option.getD_some]
  exact u2
 simp only at hx
 rw[List.getElem?_set_ne (Ne.symm e)]at hx
 exact htm' t x hx
def elF (f:Nat->Nat->Int) (k:Nat):Nat->Nat->Int:=fun i j=>bk f k (k+i) (k+j)
abbrev El (n:Nat) (f:Nat->Nat->Int) (k:Nat):List (List Int):=dC (n-k) (n-k) (elF f k)
def yF (n:Nat) (f:Nat->Nat->Int) (k:Nat):List (List (List Int)):=(List.range k).map (El n f)
theorem F4 (n:Nat) (f:Nat->Nat->Int) (k:Nat):yF n f k++[El n f k]=yF n f (k+1):=by simp[yF,List.range_succ]
theorem wu (n:Nat) (f:Nat->Nat->Int) (k:Nat):(yF n f k).length=k:=by simp[yF]
theorem Em (n:Nat) (f:Nat->Nat->Int):dC n n f=El n f 0:=i7 fun i j _ _=>by
 show f i j=bk f 0 (0+i) (0+j)
 rw[fX,Nat.zero_add,Nat.zero_add]
theorem rL {f:Nat->Nat->Int} {k:Nat} (hd: ∀t,t<k->dk f (t+1)≠0) (i j:Nat):
  (elF f k 0 0*elF f k (i+1) (j+1)-elF f k (i+1) 0*elF f k 0 (j+1))/dk f k=elF f (k+1) i j:=by
 have h0:dk f k≠0:=by
  cases k with
  |zero=>rw[gg];decide
  |succ k=>exact hd k (Nat.lt_succ_self k)
 have h:=sylv f k hd (k+1+i) (k+1+j)
 have e:elF f k 0 0*elF f k (i+1) (j+1)-elF f k (i+1) 0*elF f k 0 (j+1)=dk f k*elF f (k+1) i j:=by
  unfold elF
  rw[Nat.add_zero,<- dS,show k+(i+1)=k+1+i by omega,show k+(j+1)=k+1+j by omega,h]
 rw[e,Int.mul_ediv_cancel_left _ h0]
theorem mC (f:Nat->Nat->Int) (k:Nat):elF f k 0 0=dk f (k+1):=by
 unfold elF
 rw[Nat.add_zero,dS]
def fM (M:List (List Int)):List PV:=[.sl (ls (fR fZ) M)]
theorem EI (l:List (List (List Int))) (M:List (List Int)):lc fM l++[[.p (.sl (ls (fR fZ) M))]]=lc fM (l++[M]):=by simp[lc,fM]
def KJ (n:Nat) (f:Nat->Nat->Int):Prop:= ∀t,t+1<n->dk f (t+1)≠0
open Classical in
noncomputable def KE (n:Nat) (f:Nat->Nat->Int):TV:=if KJ n f then .tup [(false,[.p (.sl (ls fM (yF n f n)))]),(false,[.p (.raw (.bool true))])]else .tup [(false,[.p (.raw (.slice none 0 0))]),(false,[.p (.raw (.bool false))])]
theorem yl {n:Nat} {f:Nat->Nat->Int} (h:KJ n f):KE n f= .tup [(false,[.p (.sl (ls fM (yF n f n)))]),(false,[.p (.raw (.bool true))])]:=if_pos h
theorem BH {n:Nat} {f:Nat->Nat->Int} (h: ¬KJ n f):KE n f= .tup [(false,[.p (.raw (.slice none 0 0))]),(false,[.p (.raw (.bool false))])]:=if_neg h
structure Mj (n:Nat) (f:Nat->Nat->Int) where
 k:Nat
 s:Nat
 hk:k<n
 nz: ∀t,t<k->dk f (t+1)≠0
 hs:s+1<=1025*2^k
 sz: ∀i j,i<n-k->j<n-k->Sz (elF f k i j) s
 sl:Sz (dk f k) s
theorem DE (n:Nat) (f:Nat->Nat->Int) (hn1:1<=n) (hn:n<=16) (hf: ∀i j,i<n->j<n->Sz (f i j) 1024):CallC Tryz.prog 118 [eF (dC n n f)] ⟨[],KE n f⟩:=by
 have hQ:=uC n f hn1 hn
 have h1:=xn 1 (by omega) (by omega)
 have hT:=IR 147 (ry (dC n n f)) n n f hn1 hn hn1 hn (fun i j hi hj=>KC hi hj hn ((hf i j hi hj).mono (by omega)))
 refine bG Tryz.func118 rfl (by kernel_rfl) ?_;rw[Tryz.ntmps118]
 (refine aL [] fun K hK=>?_;simp(disch:=omega) only[kc,aM,aa,eF,aj,dP,bU,bI,cellsOf,isPure,cQ,aN,ab];apply hK)
 refine B6 ?_
 (refine aL [⟨1,_,_,_,hQ⟩] fun K hK=>?_;simp(disch:=omega) only[kc,eF,bj.a,aM,aa,aZ,bD,packT,mj,m0,aY,bU,bI,ac,bO,cq,ae,bV,bW,bs,noRefTV,bf,bQ,bM,cK,aU];apply hK)
 (refine aP (aL [] fun K hK=>?_);simp(disch:=omega) only[kc,aM,dM,aU,fD];apply hK)
 refine bL rfl (bi ?_)
 show da _ _ _ _
 refine da.weak ((oC 1 1 (cs:=ry (dC n n f)) rfl rfl).trans (aT (tm:=[jk,.one (.p (.ptr (ry (dC n n f)))),.raw (.slice none 0 0),.raw (.bool false),.raw (.int .i64 (n:Int)),jk,jk,jk,jk,jk,jk,jk,jk,jk,jk,jk,jk,jk,jk,jk,jk,jk,jk,jk,jk,jk,jk,jk,jk,jk,jk,jk,jk,jk,jk,jk,jk,jk,jk,jk,jk,jk,jk,jk,jk,jk,jk,jk,jk,jk,jk,jk,jk,jk,jk,jk,jk,jk,jk,jk,jk,jk]) (l:=[]) trivial (by simp[di,b9,b8,gT,gh]))) ?_
 (refine aL [⟨3,_,_,_,hT⟩] fun K hK=>?_;simp(disch:=omega) only[kc,eF,bj.a,aM,aa,Hm,jF,aZ,List.isEmpty_toArray,bO,km,aY,bU,bI,ac,cq,ae,bV,bW,bs,isPure,noRefTV,bf,bQ,bM];apply hK)
 (refine aL [⟨0,_,_,_,h1⟩] fun K hK=>?_;simp(disch:=omega) only[kc,tZ,cp,bj.a,aM,aa,aY,bU,bI,ac,bO,aN,ab,cq,ae,bV,bW,bs,noRefTV,bf,bQ,bM,cy,cx,cQ,bo,ew,cU,bS,bD,cellsOf,ai,isPure,bu,bz,bx];apply hK)
 (refine aL [] fun K hK=>?_;simp(disch:=omega) only[kc,aM,aN,ab];apply hK)
 refine aP (B5 ?_)
 show da _ _ _ _
 (refine aP (aL [] fun K hK=>?_);simp(disch:=omega) only[kc,aM,aN,ab];apply hK)
 refine cC (G:=Mj n f) (fun g=>⟨[jk,jk,.raw (.slice none 0 0),.raw (.bool false),.raw (.int .i64 (n:Int)),jk,eF (El n f g.k),.one (.ptr 7 0 0 0),.one (.sl 30 0 0 g.k),jk,jk,jk,jk,jk,jk,jk,jk,jk,jk,jk,jk,jk,jk,.raw (.int .i64 (n:Int)),.raw (.int .i64 (g.k:Int)),jk,jk,jk,jk,jk,jk,jk,jk,jk,jk,jk,jk,jk,jk,jk,jk,jk,jk,jk,jk,jk,jk,jk,jk,jk,jk,jk,jk,jk,jk,jk,jk,jk,jk,jk,jk,jk],Hm [(7,yX (dk f g.k)),(30,[⟨46,1,lc fM (yF n f g.k)⟩])]⟩) (fun g=>n-g.k) ⟨0,1024,by omega,fun t ht=>by omega,by omega,fun i j hi hj=>?_,?_⟩ ?_ ?_
 ·show Sz (bk f 0 (0+i) (0+j)) 1024
  rw[fX,Nat.zero_add,Nat.zero_add]
  exact hf i j (by omega) (by omega)
 ·show Sz (dk f 0) 1024
  rw[gg];exact wv (by omega)
 ·refine(iz (k:=8) (d:=30) 46 1 (by omega) rfl rfl).trans (aT ⟨?_,rfl,trivial⟩ ?_)
  ·rw[gg];rfl
  simp[di,b9,b8]
  exact congrArg _ (Em n f).symm
 rintro⟨k,s,hk,nz,hs,sz,sl⟩
 simp only
 have h2k:=lB (k:=k) (by omega)
 have hsb:s<=67174400:=by omega
 have q1:=dm (n-k) (elF f k) (show 0<n-k by omega)
 have q2:=cu (elF f k 0) (show 0<n-k by omega)
 have hSg:=qJ (elF f k 0 0) ((sz 0 0 (by omega) (by omega)).mono (by omega))
 have hsn:=F4 n f k
 have hln:=wu n f k
 (refine aL [] fun K hK=>?_;simp(disch:=omega) only[kc,aM,eF,Hm,aU,aO,aR,aX,aS,cw];apply hK)
 refine aP (bJ rfl (bi ?_))
 refine aP (bA ?_)
 (refine aL [] fun K hK=>?_;simp(disch:=omega) only[kc,aM];apply hK)
 (refine aL [] fun K hK=>?_;simp(disch:=omega) only[kc,aM,aa,cX,bU,bI,m4,uW,mj,gU,cellsOf,isPure,Nat.reduceMul,Nat.reduceLeDiff,List.contains_nil,lI,cQ,dX,kG,cU,eo,af,IT,eW,gE,hln,fW,gI,and_true,fq,f4,EI,hsn,ew,bz,bx,ak];apply hK)
 refine aP (bA ?_)
 by_cases hkn:k=n-1
 ·have hnz:KJ n f:=fun t ht=>nz t (by omega)
  rw[yl hnz]
  (refine aL [] fun K hK=>?_;simp(disch:=omega) only[kc,aM,aa,aU,aO,aR,aX,aN,ab,aS,cd,cw];apply hK)
  refine bJ rfl (ck ?_)
  show da _ _ _ _
  have hk1:k+1=n:=by omega
  rw[hk1]
  have hlen:=wu n f n
  (refine aL [] fun K hK=>?_;simp(disch:=omega) only[kc,aM,aa,aN,ab];apply hK)
  refine bC ⟨.inr rfl,kQ 30 (eE rfl) ?_ rfl⟩
  have eT:List.take n (yF n f n)=yF n f n:=List.take_of_length_le (by rw[hlen];exact ai _)
  simp(disch:=omega) only[kc,cH,Tryz.results118,eP,bH,gT,gh,bD,af,cQ,eB,eT,eZ,dF]
 (refine aL [] fun K hK=>?_;simp(disch:=omega) only[kc,aM,aa,aU,aO,aR,aX,aN,ab,aS,cd,cp];apply hK)
 refine bL rfl ?_
 by_cases hz:dk f (k+1)=0
 ·have hno: ¬KJ n f:=fun h=>h k (by omega) hz
  rw[BH hno]
  rw[mC,hz]at hSg
  (refine aL [⟨5,_,_,_,hSg⟩] fun K hK=>?_;simp(disch:=omega) only[kc,tZ,cp,Bx,bj.a,aM,aa,aQ,aZ,aN,ab,aW,aw,cb,ch,q1,fR,dy,packT,dD,cE,q2,mC,hz,fZ,bS,cf,ai,aY,bU,bI,ac,bO,cq,ae,bV,bW,bs,isPure,noRefTV,bf,bQ,bM,aU,aO,aR,aX,aS,cw];apply hK)
  refine bJ rfl ?_
  (refine aL [] fun K hK=>?_;simp(disch:=omega) only[kc,aM,aN,ab];apply hK)
  (refine bC ⟨.inr rfl,bF rfl ?_ rfl⟩;simp(disch:=omega) only[cH,Tryz.results118,eP,bH,ah,ag,ao,dF,am])
 have hs0:=Ji hz
 rw[mC]at hSg q2
 (refine aL [⟨5,_,_,_,hSg⟩] fun K hK=>?_;simp(disch:=omega) only[kc,tZ,bj.a,aM,aa,aQ,aZ,aN,ab,aW,aw,cb,ch,q1,fR,dy,packT,dD,cE,q2,fZ,bS,cf,ai,aY,bU,bI,ac,bO,cq,ae,bV,bW,bs,isPure,noRefTV,bf,bQ,bM,aU,aO,aR,aX,aS,cp];apply hK)
 refine bL rfl (bi ?_)
 show da _ _ _ _
 (refine aL [] fun K hK=>?_;simp(disch:=omega) only[kc,aM,aa,cy,bU,bI,uW,ab,cQ,bD,af,d4,bo,ew,cU,mj,cellsOf,ai,isPure,bu,bz,bx];apply hK)
 refine da.weak ((oC 10 10 (cs:=ry (El n f k)) rfl rfl).trans (aT (tm:=[jk,jk,.raw (.slice none 0 0),.raw (.bool false),.raw (.int .i64 (n:Int)),jk,jk,.one (.ptr 7 0 0 0),.one (.sl 30 0 0 (k+1)),.raw (.int .i64 (k:Int)),.one (.p (.ptr (ry (El n f k)))),jk,jk,jk,jk,jk,jk,jk,jk,jk,jk,jk,jk,.raw (.int .i64 (n:Int)),.raw (.int .i64 (k:Int)),jk,jk,jk,jk,jk,jk,jk,jk,jk,jk,jk,jk,jk,jk,jk,jk,jk,jk,jk,jk,jk,jk,jk,jk,jk,jk,jk,jk,jk,jk,jk,jk,jk,jk,jk,jk,jk]) (l:=[(7,yX (dk f k)),(30,[⟨46,1,lc fM (yF n f (k+1))⟩])]) ⟨rfl,rfl,trivial⟩ (by simp[di,b9,b8,gT,gh]))) ?_
 refine aP (yN 7 (cs:=fZ (dk f k)) rfl fun b=>?_)
 refine kX.weak (aT (tm:=[jk,jk,.raw (.slice none 0 0),.raw (.bool false),.raw (.int .i64 (n:Int)),jk,jk,Lo b,.one (.sl 30 0 0 (k+1)),.raw (.int .i64 (k:Int)),.one (.p (.ptr (ry (El n f k)))),jk,jk,jk,jk,jk,jk,jk,jk,jk,jk,jk,jk,.raw (.int .i64 (n:Int)),.raw (.int .i64 (k:Int)),jk,jk,jk,jk,jk,jk,jk,jk,jk,jk,jk,jk,jk,jk,jk,jk,jk,jk,jk,jk,jk,jk,jk,jk,jk,jk,jk,jk,jk,jk,jk,jk,jk,jk,jk,jk,jk]) (l:=[(30,[⟨46,1,lc fM (yF n f (k+1))⟩])]) ⟨rfl,trivial⟩ (by simp[di,b9,b8,xF,pS])) ?_
 have hd0:dk f k≠0:=by
  cases k with
  |zero=>rw[gg];decide
  |succ k=>exact nz k (by omega)
 have hT2:=IS 149 (ry (El n f k)) b 42 (fZ (dk f k)) (n-(k+1)) (n-(k+1)) (fun i j=>(elF f k 0 0*elF f k (i+1) (j+1)-elF f k (i+1) 0*elF f k 0 (j+1))/dk f k) (by omega) (by omega) (by omega) (by omega)
  (fun i j hi hj=>KD b (by omega) (by omega) (by omega) s hsb sz sl hd0)
 rw[i7 fun i j _ _=>rL (f:=f) (k:=k) nz i j]at hT2
 have en:((n-(k+1):Nat):Int)=(n:Int)-(k:Int)-1:=by omega
 rw[en]at hT2
 ((refine Cc 9 hT2 [] [] (by kernel_rfl) (by rfl) (by rfl) (by simp) fun K hK=>?_);simp(disch:=omega) only[kc,eF,aM,aa,Lo,Hm,aU,aO,aR,aX,aS,cd,aN,ab,jF,aZ,List.isEmpty_toArray,bO,km,aY,bU,bI,ac,cq,ae,bV,bW,bs,isPure,noRefTV,bf,bQ,bM];apply hK)
 refine⟨rfl,?_⟩
 show da _ _ _ _
 refine da.weak (aT (tm:=[jk,jk,.raw (.slice none 0 0),.raw (.bool false),.raw (.int .i64 (n:Int)),jk,eF (El n f (k+1)),.one (.ptr 7 0 0 0),.one (.sl 30 0 0 (k+1)),jk,.one (.p (.ptr (ry (El n f k)))),jk,jk,jk,jk,jk,jk,jk,jk,jk,jk,jk,jk,.raw (.int .i64 (n:Int)),.raw (.int .i64 (k:Int)),jk,jk,jk,jk,jk,jk,jk,jk,jk,jk,jk,jk,jk,jk,jk,jk,jk,jk,jk,jk,jk,jk,jk,jk,jk,jk,jk,jk,jk,jk,jk,jk,jk,jk,jk,jk,jk]) (l:=[(7,yX (dk f k)),(30,[⟨46,1,lc fM (yF n f (k+1))⟩])]) ⟨rfl,rfl,trivial⟩ (by simp[di,b9,b8,DW,vm])) ?_
 ((refine bK [] [] (by simp) fun K hK=>?_);simp(disch:=omega) only[kc,aM,aa,eF,Hm,aZ,packT,mj,m0,aQ,aN,ab,aW,aw,cb,ch,q1,fR,dy,dD,cE,q2,fZ,bS,cf,ai,bo,ew,cU,af,cellsOf,isPure,cQ,bu,bz,bx];apply hK)
 show da _ _ _ _
 ((refine bK [] [] (by simp) fun K hK=>?_);simp(disch:=omega) only[kc,aM,aU,aO,aR,aX,aN,ab,aS,cd];apply hK)
 have nz': ∀t,t<k+1->dk f (t+1)≠0:=fun t ht=>by
  by_cases e:t=k
  ·subst e;exact hz
  exact nz t (by omega)
 refine⟨⟨k+1,2*s+1,by omega,nz',by rw[Nat.pow_succ];omega,fun i j hi hj=>?_,?_⟩,by simp only;omega,aT ⟨rfl,rfl,trivial⟩ ?_⟩
 ·rw[<- rL nz]
  exact((((sz 0 0 (by omega) (by omega)).mul (sz (i+1) (j+1) (by omega) (by omega))).sub ((sz (i+1) 0 (by omega) (by omega)).mul (sz 0 (j+1) (by omega) (by omega)))).ediv _).mono (by omega)
 ·rw[<- mC]
  exact(sz 0 0 (by omega) (by omega)).mono (by omega)
 simp[di,b9,b8]
abbrev nY (M:List (List Int)):AV:= .p (.ptr [.sl (ls (fR fI) M)])
theorem K8 {n c:Nat} {f:Nat->Nat->Int} {i j:Nat} (hi:i<n) (hj:j<c) (hc:c<=16) (hn:n<=16) (hf: -9223372036854775808<=f i j/\f i j<=9223372036854775807):
  CallC Tryz.prog 114 [.raw (.int .i64 (i:Int)),.raw (.int .i64 (j:Int)),.one (nY (dC n c f))] ⟨[],tZ (f i j)⟩:=by
 have hml:=cT n c f
 have hr:=dm c f hi
 have hjr:=cu (f i) hj
 have hS:=xn (f i j) hf.1 hf.2
 refine bG Tryz.func114 rfl (by kernel_rfl) ?_;rw[Tryz.ntmps114]
 (refine aL [] fun K hK=>?_;simp(disch:=omega) only[kc,aM,nY,aa,aj,cy,bU,bI,cx,ab,cQ];apply hK)
 (refine aL [⟨7,_,_,_,hS⟩] fun K hK=>?_;simp(disch:=omega) only[kc,tZ,bj.a,aM,aa,aZ,packT,kD,jv,aQ,aW,bv,ch,hr,fR,db,dc,ca,hjr,fI,dJ,et,aY,bU,bI,ac,bO,cq,ae,bV,bW,bs,noRefTV,bf,bQ,bM,bo,ew,cU,bS,bD,cellsOf,ai,isPure,cQ,bu,bz,bx];apply hK)
 (refine bC ⟨.inr rfl,bF rfl ?_ rfl⟩;simp(disch:=omega) only[kc,cH,Tryz.results114,bH,bD,d4,packT,bS,cf,aa,ai,tZ])
def Dr (d n c i:Nat) (g:Nat->Nat->Int):List OObj:=⟨84,1,iX d (aj i c)++aj (n-i) [.p (.sl [])]⟩::(dC i c g).map mS
theorem Cg (d n c:Nat) (g:Nat->Nat->Int):([⟨84,1,aj n [.raw (.slice none 0 0)]⟩]:List OObj).map zO=Dr d n c 0 g:=by
 simp[Dr,dC,zO,iX,Ak,BV]
theorem DZ (d n c:Nat) (g:Nat->Nat->Int):Dr d n c n g=qv d n c g:=by
 simp[Dr]
theorem D0 {d n c i:Nat} (g:Nat->Nat->Int) (hi:i<n) (hz: ∀b,b<c->g i b=0):
  ((⟨84,1,(iX d (aj i c)++aj (n-i) [AV.p (PV.sl [])]).set i [.sl d (i+1) 0 c]⟩::(dC i c g).map mS++[⟨42,2,aj c [.raw (.bool false),.raw (.slice none 0 0)]⟩]:List OObj)).map zO=Dr d n c (i+1) g:=by
 have e1:(iX d (aj i c)++aj (n-i) [AV.p (PV.sl [])]).set i [.sl d (i+1) 0 c]=iX d (aj (i+1) c)++aj (n-(i+1)) [AV.p (PV.sl [])]:=by
  rw[List.set_append_right _ _ (by simp[dT]),dT,List.length_replicate,Nat.sub_self,List.replicate_succ' (n:=i),mW,List.length_replicate,List.append_assoc]
  congr 1
  rw[show n-i=n-(i+1)+1 by omega,List.replicate_succ]
  rfl
 have e2:dz c (g i)=aj c 0:=by
  apply List.ext_getElem?
  intro b
  by_cases hb:b<c
  ·rw[cu _ hb,List.getElem?_replicate,if_pos hb,hz b hb]
  rw[List.getElem?_eq_none (by rw[dj];omega),List.getElem?_eq_none (by simp;omega)]
 have e3:dC (i+1) c g=dC i c g++[dz c (g i)]:=by simp[dC,List.range_succ]
 rw[e1]
 simp only[List.cons_append,List.map_cons,List.map_append,Dr,e3,List.map_map]
 congr 1
 ·simp[zO,Jk,Ak,BV]
 congr 1
 ·refine List.map_congr_left fun r _=>?_
  simp[zO,mS,Lj]
 simp[e2,zO,mS,lc,fZ,Ak,BV,ef,ls]
theorem GU {d n c i k:Nat} (h:k<i):(iX d (aj i c)++aj (n-i) [AV.p (PV.sl [])])[k]?=some [.sl d (k+1) 0 c]:=by
 rw[List.getElem?_append_left (by simp[dT];exact h),d5 d c h]
theorem GV {d n c i:Nat} (h:i<=n):(iX d (aj i c)++aj (n-i) [AV.p (PV.sl [])]).length=n:=by simp[dT];omega
theorem GW (n c:Nat) (f:Nat->Nat->Int) (hn1:1<=n) (hn:n<=16) (hc1:1<=c) (hc:c<=16) (hf: ∀i j,i<n->j<c-> -9223372036854775808<=f i j/\f i j<=9223372036854775807):
  CallC Tryz.prog 113 [.raw (.int .i64 (n:Int)),.raw (.int .i64 (c:Int)),.fn 114 [nY (dC n c f)]] ⟨qv 0 n c f,.one (.sl 0 0 0 n)⟩:=by
 refine bG Tryz.func113 rfl (by kernel_rfl) ?_;rw[Tryz.ntmps113]
 (refine aL [] fun K hK=>?_;simp(disch:=omega) only[kc,aM,nY,aa,aj,aN,ab];apply hK)
 (refine aL [] fun K hK=>?_;simp(disch:=omega) only[kc,aM,aa,cY,bU,bI,cb,jQ,dy,nF,Int.natCast_nonneg,ab,and_true,cQ];apply hK)
 (refine aP (aL [] fun K hK=>?_);simp(disch:=omega) only[kc,aM,aa,be,aZ,cb,aN,ab];apply hK)
 refine cC (G:=ov n) (fun g=>⟨[jk,.raw (.int .i64 (c:Int)),.fn 114 [nY (dC n c f)],jk,jk,jk,jk,.one (.sl 11 0 0 n),jk,jk,jk,jk,jk,.raw (.int .i64 (n:Int)),.raw (.int .i64 (g.i:Int)),jk,jk,jk,jk,jk,jk,jk,jk,jk,jk,jk,jk,jk,jk,jk,jk,jk,jk,jk,jk,jk,jk,jk,jk,jk,jk,jk,jk],Hm [(11,Dr 11 n c g.i (part f g.i 0))]⟩) (fun g=>n-g.i) ⟨0,by omega⟩ ?_ ?_
 ·refine(jd 11).trans (aT ⟨Cg 11 n c _,trivial⟩ ?_)
  simp[di,b9,b8]
 rintro⟨i,hi⟩
 simp only
 by_cases hm:i<n
 ·have hg:=BW (d:=11) (c:=c) hm
  (refine aL [] fun K hK=>?_;simp(disch:=omega) only[kc,aM,nY,Hm,aU,aO,aR,aX,aS,cw];apply hK)
  refine aP (bJ rfl (bi ?_))
  refine aP (bA ?_)
  (refine aL [] fun K hK=>?_;simp(disch:=omega) only[kc,aM];apply hK)
  simp only[Dr]
  (refine aL [] fun K hK=>?_;simp(disch:=omega) only[kc,aM,aa,cY,bU,bI,cE,cx,bS,kC,Int.natCast_nonneg,ab,and_true,cQ,af,aQ,aZ,aW,cb,bD,dy,bo,ew,cU,hg,bu,d4,Nat.reduceLeDiff,List.length_replicate,List.all_replicate,isPure,List.length_map,cT,bz,bx,ak];apply hK)
  refine da.weak ((jd 11).trans (aT (tm:=[jk,.raw (.int .i64 (c:Int)),.fn 114 [nY (dC n c f)],jk,jk,jk,jk,.one (.sl 11 0 0 n),.raw (.int .i64 (i:Int)),jk,jk,jk,jk,.raw (.int .i64 (n:Int)),.raw (.int .i64 (i:Int)),jk,jk,jk,jk,jk,jk,jk,jk,jk,jk,jk,jk,jk,jk,jk,jk,jk,jk,jk,jk,jk,jk,jk,jk,jk,jk,jk,jk]) (l:=[(11,Dr 11 n c (i+1) (part f i 0))]) ⟨D0 (part f i 0) hm (fun b _=>by simp[part]),trivial⟩ (by simp[di,b9,b8]))) ?_
  have a1:=GU (d:=11) (n:=n) (c:=c) (show i<i+1 by omega)
  have a2:=GV (d:=11) (n:=n) (c:=c) (show i+1<=n by omega)
  have a3:=kv (n:=i+1) c (part f i 0) (show i<i+1 by omega)
  simp only[Dr]
  (refine aL [] fun K hK=>?_;simp(disch:=omega) only[kc,aM,aa,nY,Hm,aQ,aZ,aW,cb,dy,cQ,a1,packT,dD,be,cE,aN,ab];apply hK)
  refine cC (G:=ov c) (fun g=>⟨[jk,.raw (.int .i64 (c:Int)),.fn 114 [nY (dC n c f)],jk,jk,jk,jk,.one (.sl 11 0 0 n),.raw (.int .i64 (i:Int)),jk,jk,jk,jk,.raw (.int .i64 (n:Int)),.raw (.int .i64 (i:Int)),jk,jk,jk,jk,jk,jk,jk,jk,jk,jk,jk,.raw (.int .i64 (c:Int)),.raw (.int .i64 (g.i:Int)),jk,jk,jk,jk,jk,jk,jk,jk,jk,jk,jk,jk,jk,jk,jk],Hm [(11,Dr 11 n c (i+1) (part f i g.i))]⟩) (fun g=>c-g.i) ⟨0,by omega⟩ ?_ ?_
  ·refine aT ⟨rfl,trivial⟩ ?_
   simp[di,b9,b8]
  rintro⟨j,hj⟩
  simp only
  by_cases hm2:j<c
  ·have hS:=K8 (n:=n) (c:=c) (f:=f) hm hm2 hc hn (hf i j hm hm2)
   have g2:=kv (n:=i+1) c (part f i j) (show i<i+1 by omega)
   have g3:=cu (part f i j i) hm2
   (refine aL [] fun K hK=>?_;simp(disch:=omega) only[kc,aM,nY,Hm,aU,aO,aR,aX,aS,cw];apply hK)
   refine aP (bJ rfl (bi ?_))
   refine aP (bA ?_)
   (refine aL [] fun K hK=>?_;simp(disch:=omega) only[kc,aM];apply hK)
   simp only[Dr]
   ((refine gP cJ [⟨8,_,_,_,hS⟩] [] (by kernel_rfl) (by simp) fun K hK=>?_);simp(disch:=omega) only[kc,nY,tZ,bj.a,aM,aa,aQ,aZ,aW,cb,dy,cQ,a1,packT,dD,jM,bU,bI,rr,ac,bO,cq,ae,bV,bW,bs,noRefTV,bf,bQ,bM,cE,g2,bS,bo,ew,cU,dp,fZ,g3,cellsOf,ai,isPure,bu,vU,bz,bx];apply hK)
   show da _ _ _ _
   ((refine bK [] [] (by simp) fun K hK=>?_);simp(disch:=omega) only[kc,aM,aU,aO,aR,aX,aN,ab,aS,cd];apply hK)
   refine⟨⟨j+1,by omega⟩,by simp only;omega,aT ⟨?_,trivial⟩ ?_⟩
   ·show _::_=_::_
    rw[ij fun a b _ _=>nA f i j a b]
   simp[di,b9,b8]
  have hjc:j=c:=by omega
  subst hjc
  (refine aL [] fun K hK=>?_;simp(disch:=omega) only[kc,aM,nY,Hm,aU,aO,aR,aX,aS,cp];apply hK)
  refine aP (bL rfl (ck ?_))
  show da _ _ _ _
  ((refine bK [] [] (by simp) fun K hK=>?_);simp(disch:=omega) only[kc,aM,aU,aO,aR,aX,aN,ab,aS,cd];apply hK)
  refine⟨⟨i+1,by omega⟩,by simp only;omega,aT ⟨?_,trivial⟩ ?_⟩
  ·show _::_=_::_
   rw[ij fun a b _ hb=>pa f i a b hb]
  simp[di,b9,b8]
 have hin:i=n:=by omega
 subst hin
 rw[DZ]
 (refine aL [] fun K hK=>?_;simp(disch:=omega) only[kc,aM,nY,Hm,aU,aO,aR,aX,aS,cp];apply hK)
 refine aP (bL rfl (ck ?_))
 show da _ _ _ _
 (refine aL [] fun K hK=>?_;simp(disch:=omega) only[kc,aM];apply hK)
 refine bC ⟨.inr rfl,_,eg.refl _,?_⟩
 refine⟨.one (.sl 11 0 0 i),11,?_,rfl,?_,rfl⟩
 ·simp(disch:=omega) only[cH,Tryz.results113,bH,ah,ag]
 show qv 0 i c f=(qv 11 i c (part f i 0)).map (renO 0)
 rw[oU 11 0]
 show _::_=_::_
 rw[ij fun a b ha _=>o9 f a b ha]
theorem xT (n c:Nat) (f:Nat->Nat->Int) (hn1:1<=n) (hn:n<=16) (hc1:1<=c) (hc:c<=16) (hf: ∀i j,i<n->j<c-> -9223372036854775808<=f i j/\f i j<=9223372036854775807):
  CallC Tryz.prog 75 [dx (dC n c f)] ⟨[],KM (dC n c f)⟩:=by
 have hml:=cT n c f
 have h0:=mG (M:=dC n c f) (by omega)
 have h1:=dm (n:=n) c f (i:=0) (by omega)
 have hhd:(dC n c f).headD []=dz c (f 0):=by rw[h1]at h0;injection h0 with h0;exact h0.symm
 have hsh:Ap (dC n c f):=⟨by omega,by omega,fun r hr=>by
  obtain⟨i,_,rfl⟩:=List.mem_map.1 hr
  rw[hhd]
  simp[rOk,dj];omega⟩
 have hS:=FY (dC n c f)
 rw[nE hsh,hml,hhd,dj]at hS
 have hB:=GW n c f hn1 hn hc1 hc hf
 unfold KM
 refine bG Tryz.func75 rfl (by kernel_rfl) ?_;rw[Tryz.ntmps75]
 (refine aL [] fun K hK=>?_;simp(disch:=omega) only[kc,aM,aa,dx,aj,dP,bU,bI,cellsOf,isPure,cQ,aN,ab];apply hK)
 (refine aL [⟨1,_,_,_,hS⟩] fun K hK=>?_;simp(disch:=omega) only[kc,dx,bj.a,aM,aa,aZ,bD,packT,kD,jv,aY,bU,bI,ac,bO,cq,ae,bV,bW,bs,noRefTV,bf,bQ,bM,cK,aU];apply hK)
 (refine aP (aL [] fun K hK=>?_);simp(disch:=omega) only[kc,aM,dM,aU,fD];apply hK)
 refine bL rfl (bi ?_)
 show da _ _ _ _
 refine da.weak ((oC 1 1 (cs:=[.sl (ls (fR fI) (dC n c f))]) rfl rfl).trans (aT (tm:=[jk,.one (nY (dC n c f)),jk,jk,.raw (.int .i64 (n:Int)),.raw (.int .i64 (c:Int)),jk,jk,jk,jk,jk,jk,jk,jk,jk,jk,jk,jk,jk]) (l:=[]) trivial (by simp[di,b9,b8,gT,gh,bD,Hm]))) ?_
 (refine aL [⟨3,_,_,_,hB⟩] fun K hK=>?_;simp(disch:=omega) only[kc,nY,bj.a,aM,aa,Hm,jF,aZ,List.isEmpty_toArray,bO,km,aY,bU,bI,ac,cq,ae,List.isEmpty_cons,bV,bW,bs,isPure,Bool.not_false,noRefTV,bf,Bool.or_false,bQ,bM,renO,aN,ab];apply hK)
 refine da.weak (aT (tm:=[jk,jk,.one (.sl 18 0 0 n),.raw (.bool true),jk,jk,jk,jk,jk,jk,jk,jk,jk,jk,jk,jk,jk,jk,jk]) (l:=[(18,qv 18 n c f)]) ⟨oU 0 18 n c f,trivial⟩ (by simp[di,b9,b8])) ?_
 refine da.weak ((fp 18 (AW rfl)).trans (aT (tm:=[jk,jk,eF (dC n c f),.raw (.bool true),jk,jk,jk,jk,jk,jk,jk,jk,jk,jk,jk,jk,jk,jk,jk]) (l:=[]) trivial (by simp[di,b9,b8];exact⟨(L7 (H:=Hm [(18,qv 18 n c f)]) (d:=18) (n:=n) (c:=c) (f:=f) rfl).symm,rfl⟩))) ?_
 (refine bC ⟨.inr rfl,bF rfl ?_ rfl⟩;simp(disch:=omega) only[cH,Tryz.results75,eP,bH,eF,ah,ag,ao,dF,am])
end Go.Proofs.YtfgeomlagfomgaaGreatDoor
