/-
  Part 8 of a proof (walks and plain facts).
-/
import Derived.Test.YtfgeomlagfomgaaGreatDoorP06
set_option linter.all false
set_option maxRecDepth 100000
set_option maxHeartbeats 64000000
open Nat renaming reduceAdd → aa
open Go.Value renaming oneCell' → ab
open List renaming find?_cons → ac
open Go.Proofs.YtfgeomlagfomgaaGreatDoor.CallRes renaming plain → ae
open Nat renaming reduceEqDiff → af
open List renaming getElem?_cons_zero → ag
open List renaming getElem?_cons_succ → ah
open Nat renaming le_refl → ai
open List renaming replicate → aj
open Nat renaming reduceBEq → ak
open Bool renaming not_false → an
open Nat renaming reduceLeDiff → ap
open Int renaming reduceToNat → aw
open Nat renaming add_zero → az
namespace Go.Proofs.YtfgeomlagfomgaaGreatDoor
open Go.RowKit
theorem ng {n:Nat} (h: ¬n=0):n/4294967296<n:=Nat.div_lt_self (by omega) (by omega)
def bT (n:Nat):List Nat:=if n=0 then[]else n%4294967296::bT (n/4294967296)
termination_by n
decreasing_by exact ng (by assumption)
theorem ef:bT 0=[]:=by rw[bT];simp
theorem ni {n:Nat} (h:n≠0):bT n=n%4294967296::bT (n/4294967296):=by rw[bT];simp[h]
theorem bN (n:Nat):natV (bT n)=n:=by
 induction n using Nat.strongRecOn with
 |_ n ih=>
  by_cases h:n=0
  ·subst h;rw[ef];rfl
  rw[ni h,natV,ih _ (ng h)];omega
theorem ce (n:Nat):Lmb (bT n):=by
 induction n using Nat.strongRecOn with
 |_ n ih=>
  by_cases h:n=0
  ·subst h;rw[ef];intro a ha;simp at ha
  rw[ni h]
  intro a ha
  rcases List.mem_cons.1 ha with rfl|ha
  ·omega
  exact ih _ (ng h) a ha
theorem dV (n:Nat):nN (bT n):=by
 induction n using Nat.strongRecOn with
 |_ n ih=>
  by_cases h:n=0
  ·subst h;rw[ef];simp[nN]
  rw[ni h]
  by_cases h2:n/4294967296=0
  ·rw[h2,ef];simp[nN];omega
  have:=ih _ (ng h)
  rw[ni h2]at this⊢
  unfold nN at*
  rw[List.getLast?_cons_cons];exact this
theorem Eo {l:List Nat} (h1:Lmb l) (h2:nN l):l=bT (natV l):=
 GZ h1 (ce _) h2 (dV _) (bN _).symm
theorem gy {l:List Nat} (h1:Lmb l):fE l=bT (natV l):=by
 rw[Eo (Gj h1) (Gh l),CV]
theorem jh (n:Nat):fE (bT n)=bT n:=qC (dV n)
theorem vQ {n:Nat}:bT n=[]↔n=0:=⟨fun h=>by rw[<- bN n,h];rfl,fun h=>by rw[h,ef]⟩
theorem jI {n k:Nat} (h:n<4294967296^k):(bT n).length<=k:=yY (dV n) (by rw[bN];exact h)
theorem gW {n:Nat}:(bT n).length=0↔n=0:=by rw[List.length_eq_zero_iff,vQ]
def Sz (z:Int) (k:Nat):Prop:=z.natAbs<4294967296^k
theorem Sz.len {z:Int} {k:Nat} (h:Sz z k):(bT z.natAbs).length<=k:=jI h
theorem Sz.mono {z:Int} {k l:Nat} (h:Sz z k) (hl:k<=l):Sz z l:=Nat.lt_of_lt_of_le h (Nat.pow_le_pow_right (by omega) hl)
def fZ (z:Int):List PV:=[.raw (.bool (decide (z<0))),.sl (ls fU (bT z.natAbs))]
def cZ (z:Int):List AV:=[.p (.raw (.bool (decide (z<0)))),.p (.sl (ls fU (bT z.natAbs)))]
abbrev tZ (z:Int):TV:= .agg [.p (.raw (.bool (decide (z<0)))),.p (.sl (ls fU (bT z.natAbs)))]
theorem mT (neg:Bool) (n:Nat):(iw neg n).natAbs=n:=by unfold iw;split<;>simp
theorem wm (neg:Bool) (n:Nat):decide (iw neg n<0)=(neg&&decide (0<n)):=by
 unfold iw
 cases neg with
 |true=>simp
 |false=>simp
theorem kN (neg:Bool) (l:List Nat) (h:Lmb l) (hb:l.length<=1073741824):CallC Tryz.prog 53 [.raw (.bool neg),de l] ⟨[],tZ (iw neg (natV l))⟩:=by
 have ht:=j8 l hb
 rw[gy h]at ht
 have hlen:(bT (natV l)).length<=1073741824:=by rw[<- gy h];exact Nat.le_trans (Gi l) hb
 refine bG Tryz.func53 rfl (by kernel_rfl) ?_;rw[Tryz.ntmps53]
 (refine aL [] fun K hK=>?_;simp(disch:=omega) only[kc,aM,de,aa,aj,cy,bU,bI,cx,ab,cQ];apply hK)
 (refine aL [⟨1,_,_,_,ht⟩] fun K hK=>?_;simp(disch:=omega) only[kc,de,bj.a,aM,aa,aY,bU,bI,ac,bO,cq,ae,bV,bW,bs,noRefTV,bf,bQ,bM];apply hK)
 cases neg with
 |false=>
  (refine aL [] fun K hK=>?_;simp(disch:=omega) only[kc,aM,aa,bP,be,aZ,aV,Option.map_none,aU,aO,aR,aX,aN,ab,cQ,b7,jL,cx,jx,iC,cellsOf,ap,ai,bo,ew,cU,bS,bD,isPure,bu,bz,bx];apply hK)
  refine bC ⟨.inr rfl,bF rfl ?_ rfl⟩
  simp(disch:=omega) only[kc,cH,Tryz.results53,bH,bD,d4,packT,bS,cf,aa,ai,tZ]
  simp[tZ,mT,wm]
 |true=>
  (refine aL [] fun K hK=>?_;simp(disch:=omega) only[kc,aM,aa,bP,be,aZ,aV,bE,aU,aO,aR,aX,aN,ab,cQ,aS,b7,jL,cx,jx,iC,cellsOf,ap,ai,bo,ew,cU,bS,bD,isPure,bu,bz,bx];apply hK)
  refine bC ⟨.inr rfl,bF rfl ?_ rfl⟩
  simp(disch:=omega) only[kc,cH,Tryz.results53,bH,bD,d4,packT,bS,cf,aa,ai,tZ]
  have:(0<(bT (natV l)).length)↔0<natV l:=by
   have:=gW (n:=natV l)
   omega
  simp[tZ,mT,wm,this]
abbrev Bg (z:Int):Prop:=Sz z 1073741824
theorem Bg.len {z:Int} (h:Bg z):(bT z.natAbs).length<=1073741824:=jI h
theorem ER (z:Int):iw (!decide (z<0)) z.natAbs= -z:=by unfold iw;by_cases h:z<0<;>simp[h]<;>omega
theorem vT (z:Int):iw (decide (z<0)) z.natAbs=z:=by unfold iw;by_cases h:z<0<;>simp[h]<;>omega
theorem Jd (z:Int) (h:Bg z):CallC Tryz.prog 58 [tZ z] ⟨[],tZ (-z)⟩:=by
 have ht:=kN (!decide (z<0)) (bT z.natAbs) (ce _) h.len
 rw[bN,ER]at ht
 refine bG Tryz.func58 rfl (by kernel_rfl) ?_;rw[Tryz.ntmps58]
 (refine aL [] fun K hK=>?_;simp(disch:=omega) only[kc,aM,tZ,aj,dP,bU,bI,cellsOf,isPure,aa,cQ,cy,cx,ab,bD,af];apply hK)
 (refine aL [⟨5,_,_,_,ht⟩] fun K hK=>?_;simp(disch:=omega) only[kc,de,tZ,bj.a,aM,aa,bY,aZ,dv,eI,az,bD,af,packT,d6,dM,aU,fD,df,dU,dG,aY,bU,bI,ac,bO,cq,ae,bV,bW,bs,noRefTV,bf,bQ,bM,bo,ew,cU,bS,cellsOf,ai,isPure,cQ,bu,bz,bx];apply hK)
 (refine bC ⟨.inr rfl,bF rfl ?_ rfl⟩;simp(disch:=omega) only[kc,cH,Tryz.results58,bH,bD,af,d4,packT,bS,cf,aa,ai,tZ])
theorem Kc (z:Int) (h:Bg z):CallC Tryz.prog 99 [tZ z] ⟨[],tZ z⟩:=by
 have ht:=kN (decide (z<0)) (bT z.natAbs) (ce _) h.len
 rw[bN,vT]at ht
 refine bG Tryz.func99 rfl (by kernel_rfl) ?_;rw[Tryz.ntmps99]
 (refine aL [] fun K hK=>?_;simp(disch:=omega) only[kc,aM,tZ,aj,dP,bU,bI,cellsOf,isPure,aa,cQ,cy,cx,ab,bD,af];apply hK)
 (refine aL [⟨4,_,_,_,ht⟩] fun K hK=>?_;simp(disch:=omega) only[kc,de,tZ,bj.a,aM,aa,bY,aZ,dv,eI,az,bD,af,packT,d6,df,dU,dG,aY,bU,bI,ac,bO,cq,ae,bV,bW,bs,noRefTV,bf,bQ,bM,bo,ew,cU,bS,cellsOf,ai,isPure,cQ,bu,bz,bx];apply hK)
 (refine bC ⟨.inr rfl,bF rfl ?_ rfl⟩;simp(disch:=omega) only[kc,cH,Tryz.results99,bH,bD,af,d4,packT,bS,cf,aa,ai,tZ])
theorem wy (neg:Bool) (u:Nat) (hu:u<18446744073709551616):CallC Tryz.prog 52 [.raw (.bool neg),.raw (.int .u64 u)] ⟨[],tZ (iw neg u)⟩:=by
 have ht:=kN neg [u%4294967296,u/4294967296] (by intro a ha;simp at ha;omega) (by simp)
 rw[uV]at ht
 have e1:IntKind.u32.wrap (u:Int)=((u%4294967296:Nat):Int):=by rw[IntKind.wrap_u32];omega
 have e2:IntKind.u32.wrap ((u:Int).fdiv (2^(min (32:Int).toNat IntKind.u64.bits)))=((u/4294967296:Nat):Int):=by
  rw[IntKind.wrap_u32]
  show(Int.fdiv (u:Int) 4294967296)%4294967296=_
  rw[Int.fdiv_eq_ediv_of_nonneg _ (by omega)]
  omega
 simp only[aw]at e2
 refine bG Tryz.func52 rfl (by kernel_rfl) ?_;rw[Tryz.ntmps52]
 (refine aL [] fun K hK=>?_;simp(disch:=omega) only[kc,aM,aa,aj,cy,bU,bI,cx,ab,cQ];apply hK)
 (refine aL [⟨7,_,_,_,ht⟩] fun K hK=>?_;simp(disch:=omega) only[kc,de,Ba,fU,jX,tZ,bj.a,aM,aa,ct,aU,Tryz.underlying78,dI,e1,aO,aR,aX,aN,ab,aS,Int.reduceLE,aw,e2,cX,bU,bI,aV,ea,cg,gU,cellsOf,isPure,Nat.reduceMul,ap,List.contains_nil,lI,cQ,aY,ac,bO,cq,ae,bV,bW,bs,noRefTV,bf,bQ,bM,bo,ew,cU,bS,bD,ai,bu,bz,bx];apply hK)
 (refine bC ⟨.inr rfl,bF rfl ?_ rfl⟩;simp(disch:=omega) only[kc,cH,Tryz.results52,bH,bD,d4,packT,bS,cf,aa,ai,tZ])
theorem ws (n:Int) (h1: -9223372036854775808<=n) (h2:n<=9223372036854775807):CallC Tryz.prog 20 [.raw (.int .i64 n)] ⟨[],tZ n⟩:=by
 by_cases hn:n<0
 ·have ht:=wy true n.natAbs (by omega)
  have e1:IntKind.u64.wrap (0-IntKind.u64.wrap n)=((n.natAbs:Nat):Int):=by rw[IntKind.wrap_u64,IntKind.wrap_u64];omega
  rw[show iw true n.natAbs=n by unfold iw;simp;omega]at ht
  refine bG Tryz.func20 rfl (by kernel_rfl) ?_;rw[Tryz.ntmps20]
  (refine aL [] fun K hK=>?_;simp(disch:=omega) only[kc,aM,aj,cy,bU,bI,cx,ab,aa,cQ];apply hK)
  (refine aP (aL [] fun K hK=>?_);simp(disch:=omega) only[kc,aM,aU,aO,aR,aX,aN,ab,aS,cw];apply hK)
  refine bJ rfl ?_
  (refine aL [⟨3,_,_,_,ht⟩] fun K hK=>?_;simp(disch:=omega) only[kc,tZ,cw,bj.a,aM,aa,ct,aU,Tryz.underlying2,dn,dM,fD,e1,aY,bU,bI,ac,bO,aN,ab,cq,ae,bV,bW,bs,noRefTV,bf,bQ,bM,bo,ew,cU,bS,bD,cellsOf,ai,isPure,cQ,bu,bz,bx];apply hK)
  (refine bC ⟨.inr rfl,bF rfl ?_ rfl⟩;simp(disch:=omega) only[kc,cH,Tryz.results20,bH,bD,d4,packT,bS,cf,aa,ai,tZ,cw])
 have ht:=wy false n.natAbs (by omega)
 have e1:IntKind.u64.wrap n=((n.natAbs:Nat):Int):=by rw[IntKind.wrap_u64];omega
 rw[show iw false n.natAbs=n by unfold iw;simp;omega]at ht
 refine bG Tryz.func20 rfl (by kernel_rfl) ?_;rw[Tryz.ntmps20]
 (refine aL [] fun K hK=>?_;simp(disch:=omega) only[kc,aM,aj,cy,bU,bI,cx,ab,aa,cQ];apply hK)
 (refine aP (aL [] fun K hK=>?_);simp(disch:=omega) only[kc,aM,aU,aO,aR,aX,aN,ab,aS,cp];apply hK)
 refine bL rfl (bi ?_)
 show da _ _ _ _
 (refine aL [⟨2,_,_,_,ht⟩] fun K hK=>?_;simp(disch:=omega) only[kc,tZ,cp,bj.a,aM,aa,ct,aU,Tryz.underlying2,dn,e1,aY,bU,bI,ac,bO,aN,ab,cq,ae,bV,bW,bs,noRefTV,bf,bQ,bM,bo,ew,cU,bS,bD,cellsOf,ai,isPure,cQ,bu,bz,bx];apply hK)
 (refine bC ⟨.inr rfl,bF rfl ?_ rfl⟩;simp(disch:=omega) only[kc,cH,Tryz.results20,bH,bD,d4,packT,bS,cf,aa,ai,tZ,cp])
theorem qb (z:Int) (h:Bg z):CallC Tryz.prog 55 [tZ z] ⟨[],.raw (.int .i64 (sg z))⟩:=by
 have ht:=j8 (bT z.natAbs) h.len
 rw[jh]at ht
 have hl:=gW (n:=z.natAbs)
 rcases Int.lt_trichotomy z 0 with hz|hz|hz
 ·have e:sg z= -1:=by simp[sg,hz]
  have hl':(bT z.natAbs).length≠0:=by omega
  rw[e]
  refine bG Tryz.func55 rfl (by kernel_rfl) ?_;rw[Tryz.ntmps55]
  (refine aL [] fun K hK=>?_;simp(disch:=omega) only[kc,aM,tZ,cw,aj,dP,bU,bI,cellsOf,isPure,aa,cQ,aN,ab];apply hK)
  refine aP (bA ?_)
  (refine aL [⟨2,_,_,_,ht⟩] fun K hK=>?_;simp(disch:=omega) only[kc,de,bj.a,aM,aa,bY,aZ,df,dU,bD,packT,dG,aY,bU,bI,ac,bO,cq,ae,bV,bW,bs,noRefTV,bf,bQ,bM,be,aV,bE,aU,aO,aR,aX,aN,ab,aS,cp];apply hK)
  refine bL rfl ?_
  (refine aL [] fun K hK=>?_;simp(disch:=omega) only[kc,aM,aa,bY,aZ,dv,eI,az,bD,packT,d6];apply hK)
  refine bJ rfl ?_
  (refine aL [] fun K hK=>?_;simp(disch:=omega) only[kc,aM,aN,ab];apply hK)
  (refine bC ⟨.inr rfl,bF rfl ?_ rfl⟩;simp(disch:=omega) only[cH,Tryz.results55,bH,ah,ag])
 ·subst hz
  rw[show sg 0=0 from rfl]
  rw[Int.natAbs_zero,ef]at ht
  rw[show tZ 0= .agg [.p (.raw (.bool false)),.p (.sl (ls fU []))]from by simp[tZ,ef]]
  refine bG Tryz.func55 rfl (by kernel_rfl) ?_;rw[Tryz.ntmps55]
  (refine aL [] fun K hK=>?_;simp(disch:=omega) only[kc,aM,jX,aj,dP,bU,bI,cellsOf,isPure,aa,cQ,aN,ab];apply hK)
  refine aP (bA ?_)
  (refine aL [⟨2,_,_,_,ht⟩] fun K hK=>?_;simp(disch:=omega) only[kc,de,jX,bj.a,aM,aa,bY,aZ,df,dU,bD,packT,dG,aY,bU,bI,ac,bO,cq,ae,bV,bW,bs,noRefTV,bf,bQ,bM,be,aV,aU,aO,aR,aX,aN,ab,aS,cw];apply hK)
  refine bJ rfl ?_
  (refine aL [] fun K hK=>?_;simp(disch:=omega) only[kc,aM,aN,ab];apply hK)
  (refine bC ⟨.inr rfl,bF rfl ?_ rfl⟩;simp(disch:=omega) only[cH,Tryz.results55,bH,ah,ag])
 have e:sg z=1:=by unfold sg;rw[if_neg (by omega),if_neg (by omega)]
 have hl':(bT z.natAbs).length≠0:=by omega
 rw[e]
 refine bG Tryz.func55 rfl (by kernel_rfl) ?_;rw[Tryz.ntmps55]
 (refine aL [] fun K hK=>?_;simp(disch:=omega) only[kc,aM,tZ,cp,aj,dP,bU,bI,cellsOf,isPure,aa,cQ,aN,ab];apply hK)
 refine aP (bA ?_)
 (refine aL [⟨2,_,_,_,ht⟩] fun K hK=>?_;simp(disch:=omega) only[kc,de,bj.a,aM,aa,bY,aZ,df,dU,bD,packT,dG,aY,bU,bI,ac,bO,cq,ae,bV,bW,bs,noRefTV,bf,bQ,bM,be,aV,bE,aU,aO,aR,aX,aN,ab,aS,cp];apply hK)
 refine bL rfl ?_
 (refine aL [] fun K hK=>?_;simp(disch:=omega) only[kc,aM,aa,bY,aZ,dv,eI,az,bD,packT,d6];apply hK)
 refine bL rfl (bi ?_)
 show da _ _ _ _
 (refine aL [] fun K hK=>?_;simp(disch:=omega) only[kc,aM,aN,ab];apply hK)
 (refine bC ⟨.inr rfl,bF rfl ?_ rfl⟩;simp(disch:=omega) only[cH,Tryz.results55,bH,ah,ag])
theorem AD (l m:List Nat) (ll:Lmb l) (lm:Lmb m) (cl:nN l) (cm:nN m) (bl:l.length<=1073741824) (bm:m.length<=1073741824):
  CallC Tryz.prog 60 [de l,de m] ⟨[],.raw (.int .i64 (ir (natV l) (natV m)))⟩:=by
 rcases Nat.lt_trichotomy l.length m.length with hlt|heq|hgt
 ·rw[m8 (jt ll cm hlt)]
  refine bG Tryz.func60 rfl (by kernel_rfl) ?_;rw[Tryz.ntmps60]
  (refine aL [] fun K hK=>?_;simp(disch:=omega) only[kc,aM,de,aa,aj,aN,ab];apply hK)
  (refine aP (aL [] fun K hK=>?_);simp(disch:=omega) only[kc,aM,aa,be,aZ,aV,bE,aU,aO,aR,aX,aS,cp,an];apply hK)
  refine bJ rfl ?_
  (refine aP (aL [] fun K hK=>?_);simp(disch:=omega) only[kc,aM,aa,be,aZ,aV,bE,aU,aO,aR,aX,aS,cw];apply hK)
  refine bJ rfl ?_
  (refine aL [] fun K hK=>?_;simp(disch:=omega) only[kc,aM,aN,ab];apply hK)
  (refine bC ⟨.inr rfl,bF rfl ?_ rfl⟩;simp(disch:=omega) only[cH,Tryz.results60,bH,ah,ag])
 ·refine bG Tryz.func60 rfl (by kernel_rfl) ?_;rw[Tryz.ntmps60]
  (refine aL [] fun K hK=>?_;simp(disch:=omega) only[kc,aM,de,aa,aj,aN,ab];apply hK)
  (refine aP (aL [] fun K hK=>?_);simp(disch:=omega) only[kc,aM,aa,be,aZ,aV,bE,aU,aO,aR,aX,aS,cw];apply hK)
  refine bL rfl (bi ?_)
  show da _ _ _ _
  (refine aP (aL [] fun K hK=>?_);simp(disch:=omega) only[kc,aM,aa,be,aZ,aV,bE,aU,aO,aR,aX,aN,ab,aS,cd];apply hK)
  refine cC (G:={k:Nat//k<=l.length/\l.drop k=m.drop k}) (fun k=>⟨[de l,de m,jk,jk,.raw (.int .i64 0),.raw (.int .i64 ((k.1:Int)-1)),jk,jk,jk,jk,jk,jk,jk,jk,jk,jk,jk,jk,jk,jk,jk,jk,jk,jk,jk,jk,jk,jk,jk,jk,jk,jk,jk,jk,jk,jk,jk,jk,jk,jk,jk],Hm []⟩) (fun k=>k.1) ⟨l.length,ai _,by rw[List.drop_length,heq,List.drop_length]⟩ ?_ ?_
  ·refine aT trivial ?_
   simp[di,b9,b8]
  rintro⟨k,hk,hd⟩
  simp only
  by_cases h0:0<k
  ·obtain⟨a,ha⟩:=getElem?_of_lt (l:=l) (k:=k-1) (by omega)
   obtain⟨b,hb⟩:=getElem?_of_lt (l:=m) (k:=k-1) (by omega)
   have e1:((k:Int)-1).toNat=k-1:=by omega
   have hd':l.drop (k-1+1)=m.drop (k-1+1):=by rw[show k-1+1=k by omega];exact hd
   (refine aP (aL [] fun K hK=>?_);simp(disch:=omega) only[kc,aM,de,Hm,aU,aO,aR,aX,aN,ab,aS,cw];apply hK)
   refine bJ rfl (bi ?_)
   refine aP (bA ?_)
   (refine cL cJ [] [] (by kernel_rfl) (by simp) fun K hK=>?_;simp(disch:=omega) only[kc,aM,aa,aQ,aZ,aW,e1,aV,ch,ha,fU,cg,packT,cW,hb,aU,aO,aR,aX,aS];apply hK)
   rcases Nat.lt_trichotomy a b with hab|hab|hab
   ·rw[m8 (l7 ll ha hb hd' hab)]
    refine bJ rfl ?_
    (refine aP (cL cJ [] [] (by kernel_rfl) (by simp) fun K hK=>?_);simp(disch:=omega) only[kc,aM,aa,cp,an,aQ,aZ,aW,e1,aV,ch,ha,fU,cg,packT,cW,hb,aU,aO,aR,aX,aS,cw];apply hK)
    refine bJ rfl ?_
    (refine aL [] fun K hK=>?_;simp(disch:=omega) only[kc,aM,aN,ab];apply hK)
    (refine bC ⟨.inr rfl,bF rfl ?_ rfl⟩;simp(disch:=omega) only[cH,Tryz.results60,bH,ah,ag])
   ·subst hab
    refine bL rfl (bi ?_)
    show da _ _ _ _
    ((refine bK [] [] (by simp) fun K hK=>?_);simp(disch:=omega) only[kc,aM,aa,decide_true,aU,aO,aR,aX,aN,ab,aS,cd];apply hK)
    refine⟨⟨k-1,by omega,ud ha hb hd'⟩,by simp only;omega,aT trivial ?_⟩
    have e2:((k-1:Nat):Int)=(k:Int)-1:=by omega
    simp[di,b9,b8,e2]
   rw[qI (l7 lm hb ha hd'.symm hab)]
   refine bJ rfl ?_
   (refine aP (cL cJ [] [] (by kernel_rfl) (by simp) fun K hK=>?_);simp(disch:=omega) only[kc,aM,aa,cp,an,aQ,aZ,aW,e1,aV,ch,ha,fU,cg,packT,cW,hb,aU,aO,aR,aX,aS];apply hK)
   refine bL rfl (bi ?_)
   show da _ _ _ _
   (refine aL [] fun K hK=>?_;simp(disch:=omega) only[kc,aM,aN,ab];apply hK)
   (refine bC ⟨.inr rfl,bF rfl ?_ rfl⟩;simp(disch:=omega) only[cH,Tryz.results60,bH,ah,ag])
  have hk0:k=0:=by omega
  subst hk0
  have hlm:l=m:=by simpa using hd
  rw[show ir (natV l) (natV m)=0 by rw[hlm];simp[ir]]
  (refine aP (aL [] fun K hK=>?_);simp(disch:=omega) only[kc,aM,de,Hm,aU,aO,aR,aX,aN,ab,aS,cp];apply hK)
  refine bL rfl (ck ?_)
  show da _ _ _ _
  (refine aL [] fun K hK=>?_;simp(disch:=omega) only[kc,aM,aN,ab];apply hK)
  (refine bC ⟨.inr rfl,bF rfl ?_ rfl⟩;simp(disch:=omega) only[cH,Tryz.results60,bH,ah,ag])
 rw[qI (jt lm cl hgt)]
 refine bG Tryz.func60 rfl (by kernel_rfl) ?_;rw[Tryz.ntmps60]
 (refine aL [] fun K hK=>?_;simp(disch:=omega) only[kc,aM,de,aa,aj,aN,ab];apply hK)
 (refine aP (aL [] fun K hK=>?_);simp(disch:=omega) only[kc,aM,aa,be,aZ,aV,bE,aU,aO,aR,aX,aS,cp,an];apply hK)
 refine bJ rfl ?_
 (refine aP (aL [] fun K hK=>?_);simp(disch:=omega) only[kc,aM,aa,be,aZ,aV,bE,aU,aO,aR,aX,aS,cp];apply hK)
 refine bL rfl (bi ?_)
 show da _ _ _ _
 (refine aL [] fun K hK=>?_;simp(disch:=omega) only[kc,aM,aN,ab];apply hK)
 (refine bC ⟨.inr rfl,bF rfl ?_ rfl⟩;simp(disch:=omega) only[cH,Tryz.results60,bH,ah,ag])
def th (a b:Int):Int:=if a<b then -1 else if a=b then 0 else 1
theorem pt (z:Int): -1<=sg z/\sg z<=1:=by unfold sg;split<;>(try split)<;>omega
theorem rA (a b:Nat): -1<=ir a b/\ir a b<=1:=by unfold ir;split<;>(try split)<;>omega
theorem AC {a b:Int} (h:sg a≠sg b):th a b=if sg a<sg b then -1 else 1:=by
 unfold sg th at*
 (repeat' split at*)<;>omega
theorem AB {a b:Int} (h:sg a=sg b):th a b=sg a*ir a.natAbs b.natAbs:=by
 unfold sg th ir at*
 (repeat' split at*)<;>omega
theorem KU (a b:Int) (ha:Bg a) (hb:Bg b):CallC Tryz.prog 24 [tZ a,tZ b] ⟨[],.raw (.int .i64 (th a b))⟩:=by
 have h1:=qb a ha
 have h2:=qb b hb
 have t1:=j8 (bT a.natAbs) ha.len
 have t2:=j8 (bT b.natAbs) hb.len
 rw[jh]at t1 t2
 have h3:=AD (bT a.natAbs) (bT b.natAbs) (ce _) (ce _) (dV _) (dV _) ha.len hb.len
 rw[bN,bN]at h3
 have r1:=pt a
 have r2:=pt b
 have r3:=rA a.natAbs b.natAbs
 have r4: -1<=sg a*ir a.natAbs b.natAbs/\sg a*ir a.natAbs b.natAbs<=1:=by
  have:sg a= -1\/sg a=0\/sg a=1:=by omega
  rcases this with h|h|h<;>rw[h]<;>omega
 by_cases hs:sg a=sg b
 ·rw[AB hs]
  refine bG Tryz.func24 rfl (by kernel_rfl) ?_;rw[Tryz.ntmps24]
  (refine aL [] fun K hK=>?_;simp(disch:=omega) only[kc,aM,aa,tZ,aj,dP,bU,bI,cellsOf,isPure,cQ,bD,af,aN,ab];apply hK)
  (refine cL cJ [⟨1,_,_,_,h1⟩,⟨3,_,_,_,h2⟩] [] (by kernel_rfl) (by simp) fun K hK=>?_;simp(disch:=omega) only[kc,tZ,bj.a,aM,aa,aZ,bD,af,packT,bS,cf,ai,aY,bU,bI,ac,bO,cq,ae,bV,bW,bs,isPure,noRefTV,bf,bQ,bM,ak];apply hK)
  (refine aP (aL [] fun K hK=>?_);simp(disch:=omega) only[kc,aM,aa,aU,aO,aR,aX,aS,cw];apply hK)
  refine bL rfl (bi ?_)
  show da _ _ _ _
  (refine cL cJ [⟨3,_,_,_,t1⟩,⟨6,_,_,_,t2⟩,⟨7,_,_,_,h3⟩] [] (by kernel_rfl) (by simp) fun K hK=>?_;simp(disch:=omega) only[kc,de,bj.a,aM,aa,bY,aZ,df,dU,bD,af,packT,dG,aY,bU,bI,ac,bO,cq,ae,bV,bW,bs,noRefTV,bf,bQ,bM,ak,aU,aO,aR,aX,aS,cd];apply hK)
  (refine bC ⟨.inr rfl,bF rfl ?_ rfl⟩;simp(disch:=omega) only[cH,Tryz.results24,bH,ah,ag])
 rw[AC hs]
 refine bG Tryz.func24 rfl (by kernel_rfl) ?_;rw[Tryz.ntmps24]
 (refine aL [] fun K hK=>?_;simp(disch:=omega) only[kc,aM,aa,tZ,aj,dP,bU,bI,cellsOf,isPure,cQ,bD,af,aN,ab];apply hK)
 (refine cL cJ [⟨1,_,_,_,h1⟩,⟨3,_,_,_,h2⟩] [] (by kernel_rfl) (by simp) fun K hK=>?_;simp(disch:=omega) only[kc,tZ,bj.a,aM,aa,aZ,bD,af,packT,bS,cf,ai,aY,bU,bI,ac,bO,cq,ae,bV,bW,bs,isPure,noRefTV,bf,bQ,bM,ak];apply hK)
 (refine aP (aL [] fun K hK=>?_);simp(disch:=omega) only[kc,aM,aa,aU,aO,aR,aX,aS,cp,an];apply hK)
 refine bJ rfl ?_
 (refine aP (aL [] fun K hK=>?_);simp(disch:=omega) only[kc,aM,aa,aU,aO,aR,aX,aS];apply hK)
 by_cases hlt:sg a<sg b
 ·rw[if_pos hlt]
  refine bJ rfl ?_
  (refine aL [] fun K hK=>?_;simp(disch:=omega) only[kc,aM,cw,aN,ab];apply hK)
  (refine bC ⟨.inr rfl,bF rfl ?_ rfl⟩;simp(disch:=omega) only[cH,Tryz.results24,bH,ah,ag])
 rw[if_neg hlt]
 refine bL rfl (bi ?_)
 show da _ _ _ _
 (refine aL [] fun K hK=>?_;simp(disch:=omega) only[kc,aM,cp,aN,ab];apply hK)
 (refine bC ⟨.inr rfl,bF rfl ?_ rfl⟩;simp(disch:=omega) only[cH,Tryz.results24,bH,ah,ag])
def sumL:List Nat->List Nat->Nat->List Nat
 |[],[],c=>[c]
 |a::m,[],c=>(c+a)%4294967296::sumL m [] ((c+a)/4294967296)
 |[],b::n,c=>(c+b)%4294967296::sumL [] n ((c+b)/4294967296)
 |a::m,b::n,c=>(c+a+b)%4294967296::sumL m n ((c+a+b)/4294967296)
theorem lk: ∀(m n:List Nat) (c:Nat),natV (sumL m n c)=natV m+natV n+c
 |[],[],c=>by simp[sumL,natV]
 |a::m,[],c=>by simp only[sumL,natV,lk m []];omega
 |[],b::n,c=>by simp only[sumL,natV,lk [] n];omega
 |a::m,b::n,c=>by simp only[sumL,natV,lk m n];omega
theorem fm {a:Nat} {l:List Nat}:Lmb (a::l)↔a<4294967296/\Lmb l:=by simp[Lmb]
theorem mK: ∀(m n:List Nat) (c:Nat),Lmb m->Lmb n->c<=1->Lmb (sumL m n c)
 |[],[],c,_,_,hc=>by simp[sumL,Lmb];omega
 |a::m,[],c,hm,hn,hc=>by
  rw[fm]at hm
  rw[sumL,fm]
  exact⟨Nat.mod_lt _ (by omega),mK m [] _ hm.2 hn (by omega)⟩
 |[],b::n,c,hm,hn,hc=>by
  rw[fm]at hn
  rw[sumL,fm]
  exact⟨Nat.mod_lt _ (by omega),mK [] n _ hm hn.2 (by omega)⟩
 |a::m,b::n,c,hm,hn,hc=>by
  rw[fm]at hm hn
  rw[sumL,fm]
  exact⟨Nat.mod_lt _ (by omega),mK m n _ hm.2 hn.2 (by omega)⟩
theorem mX: ∀(m n:List Nat) (c:Nat),(sumL m n c).length=max m.length n.length+1
 |[],[],c=>by simp[sumL]
 |a::m,[],c=>by simp[sumL,mX m []]
 |[],b::n,c=>by simp[sumL,mX [] n]
 |a::m,b::n,c=>by simp[sumL,mX m n]
theorem fY {l:List Nat} {i a:Nat} (h:l[i]?=some a):l.drop i=a::l.drop (i+1):=by
 obtain⟨h1,rfl⟩:=List.getElem?_eq_some_iff.1 h
 exact List.drop_eq_getElem_cons h1
theorem fj {l:List Nat} {i:Nat} (h:l.length<=i):l.drop i=[]:=List.drop_eq_nil_iff.2 h
theorem dY {l:List Nat} {i a:Nat} (hl:Lmb l) (h:l[i]?=some a):a<4294967296:=hl a (List.mem_of_getElem? h)
theorem q9 (x:Nat):IntKind.u32.wrap (x:Int)=((x%4294967296:Nat):Int):=by rw[IntKind.wrap_u32];omega
theorem Du (x:Nat):(x:Int).fdiv (2^(min 32 IntKind.u64.bits))=((x/4294967296:Nat):Int):=by
 show Int.fdiv (x:Int) 4294967296=_
 rw[Int.fdiv_eq_ediv_of_nonneg _ (by omega)];omega
structure LP (m n:List Nat) where
 i:Nat
 o:List Nat
 c:Nat
 hi:i<=max m.length n.length
 hc:c<=1
 ho:o.length=i
 h:o++sumL (m.drop i) (n.drop i) c=sumL m n 0
theorem Lm (m n:List Nat) (lm:Lmb m) (ln:Lmb n) (bm:m.length<=1073741824) (bn:n.length<=1073741824):
  CallC Tryz.prog 130 [de m,de n] ⟨[],de (sumL m n 0)⟩:=by
 refine bG Tryz.func130 rfl (by kernel_rfl) ?_;rw[Tryz.ntmps130]
 (refine aL [] fun K hK=>?_;simp(disch:=omega) only[kc,aM,de,aa,aj,aN,ab];apply hK)
 (refine aL [] fun K hK=>?_;simp(disch:=omega) only[kc,aM,aN,ab];apply hK)
 (refine aL [] fun K hK=>?_;simp(disch:=omega) only[kc,aM,aN,ab];apply hK)
 (refine aP (aL [] fun K hK=>?_);simp(disch:=omega) only[kc,aM,aN,ab];apply hK)
 refine cC (G:=LP m n) (fun g=>⟨[de m,de n,jk,jk,.raw (.slice none 0 0),.one (.sl 46 0 0 g.o.length),.raw (.int .u64 (g.c:Int)),.raw (.int .i64 (g.i:Int)),jk,jk,jk,jk,jk,jk,jk,jk,jk,jk,jk,jk,jk,jk,jk,jk,jk,jk,jk,jk,jk,jk,jk,jk,jk,jk,jk,jk,jk,jk,jk,jk,jk,jk,jk,jk,jk,jk,jk,jk,jk,jk,jk,jk,jk,jk],Hm [(46,[⟨79,1,lc fU g.o⟩])]⟩) (fun g=>max m.length n.length-g.i) ⟨0,[],0,by omega,by omega,rfl,rfl⟩ ?_ ?_
 ·refine(iz (k:=5) (d:=46) 79 1 (by omega) rfl rfl).trans (aT ⟨rfl,trivial⟩ ?_)
  simp[di,b9,b8]
 rintro⟨i,o,c,hi,hc,ho,h⟩
 simp only
 have hmx:max m.length n.length<=1073741824:=by omega
 by_cases hm:i<m.length
 ·obtain⟨a,ha⟩:=getElem?_of_lt hm
  have ha':=dY lm ha
  (refine aP (aL [] fun K hK=>?_);simp(disch:=omega) only[kc,aM,aa,de,Hm,be,aZ,aV,bE,aU,aO,aR,aX,aS,cw,bP,reduceCtorEq,Option.map_none,cQ,b7,aN,ab];apply hK)
  refine bJ rfl (bi ?_)
  refine aP (bA ?_)
  (refine aP (aL [] fun K hK=>?_);simp(disch:=omega) only[kc,aM,aa,be,aZ,aV,bE,aU,aO,aR,aX,aS,cw];apply hK)
  refine bJ rfl ?_
  ((refine bK [] [] (by simp) fun K hK=>?_);simp(disch:=omega) only[kc,aM,aa,aQ,aZ,aW,aV,ch,ha,fU,cg,packT,cW,ct,aU,Tryz.underlying79,dn,eG,aO,aR,aX,aS];apply hK)
  show da _ _ _ _
  (refine aP (aL [] fun K hK=>?_);simp(disch:=omega) only[kc,aM,aa,be,aZ,aV,bE,aU,aO,aR,aX,aS];apply hK)
  by_cases hn:i<n.length
  ·obtain⟨b,hb⟩:=getElem?_of_lt hn
   have hb':=dY ln hb
   refine bJ rfl ?_
   ((refine bK [] [] (by simp) fun K hK=>?_);simp(disch:=omega) only[kc,aM,aa,cw,aQ,aZ,aW,aV,ch,hb,fU,cg,packT,cW,ct,aU,Tryz.underlying79,dn,eG,aO,aR,aX,aS];apply hK)
   show da _ _ _ _
   have e1:IntKind.u32.wrap ((c:Int)+(a:Int)+(b:Int))=(((c+a+b)%4294967296:Nat):Int):=by rw[<- q9];congr 1<;>omega
   have e2:Int.fdiv ((c:Int)+(a:Int)+(b:Int)) (2^(min 32 IntKind.u64.bits))=(((c+a+b)/4294967296:Nat):Int):=by rw[<- Du];congr 1<;>omega
   (refine aL [] fun K hK=>?_;simp(disch:=omega) only[kc,aM,aa,ct,aU,Tryz.underlying78,dI,e1,cX,bU,bI,aV,ea,cg,gU,cellsOf,isPure,Nat.reduceMul,ap,List.contains_nil,lI,cQ,dX,kG,cU,eo,gn,eW,gE,fW,gI,and_true,fq,f4,jp,ew,bz,bx];apply hK)
   ((refine bK [] [] (by simp) fun K hK=>?_);simp(disch:=omega) only[kc,aM,aa,aU,aO,aR,aX,aN,ab,aS,Int.reduceLE,aw,e2];apply hK)
   show da _ _ _ _
   ((refine bK [] [] (by simp) fun K hK=>?_);simp(disch:=omega) only[kc,aM,aa,aU,aO,aR,aX,aN,ab,aS,cd];apply hK)
   refine⟨⟨i+1,o++[(c+a+b)%4294967296],(c+a+b)/4294967296,by omega,by omega,by simp[ho],?_⟩,by simp only;omega,aT ⟨rfl,trivial⟩ ?_⟩
   ·rw[<- h,fY ha,fY hb,sumL,List.append_assoc];rfl
   simp[di,b9,b8]
  refine bL rfl (bi ?_)
  show da _ _ _ _
  have e1:IntKind.u32.wrap ((c:Int)+(a:Int))=(((c+a)%4294967296:Nat):Int):=by rw[<- q9];congr 1<;>omega
  have e2:Int.fdiv ((c:Int)+(a:Int)) (2^(min 32 IntKind.u64.bits))=(((c+a)/4294967296:Nat):Int):=by rw[<- Du];congr 1<;>omega
  (refine aL [] fun K hK=>?_;simp(disch:=omega) only[kc,aM,aa,cp,ct,aU,Tryz.underlying78,dI,e1,cX,bU,bI,aV,ea,cg,gU,cellsOf,isPure,Nat.reduceMul,ap,List.contains_nil,lI,cQ,dX,kG,cU,eo,gn,eW,gE,fW,gI,and_true,fq,f4,jp,ew,bz,bx];apply hK)
  ((refine bK [] [] (by simp) fun K hK=>?_);simp(disch:=omega) only[kc,aM,aa,aU,aO,aR,aX,aN,ab,aS,Int.reduceLE,aw,e2];apply hK)
  show da _ _ _ _
  ((refine bK [] [] (by simp) fun K hK=>?_);simp(disch:=omega) only[kc,aM,aa,aU,aO,aR,aX,aN,ab,aS,cd];apply hK)
  refine⟨⟨i+1,o++[(c+a)%4294967296],(c+a)/4294967296,by omega,by omega,by simp[ho],?_⟩,by simp only;omega,aT ⟨rfl,trivial⟩ ?_⟩
  ·rw[<- h,fY ha,fj (by omega:n.length<=i),fj (by omega:n.length<=i+1),sumL,List.append_assoc];rfl
  simp[di,b9,b8]
 by_cases hn:i<n.length
 ·obtain⟨b,hb⟩:=getElem?_of_lt hn
  have hb':=dY ln hb
  (refine aP (aL [] fun K hK=>?_);simp(disch:=omega) only[kc,aM,aa,de,Hm,be,aZ,aV,bE,aU,aO,aR,aX,aS,cp,bP,cw,cQ,b7];apply hK)
  refine bJ rfl (bi ?_)
  refine aP (bA ?_)
  (refine aP (aL [] fun K hK=>?_);simp(disch:=omega) only[kc,aM,aa,be,aZ,aV,bE,aU,aO,aR,aX,aS,cp];apply hK)
  refine bL rfl (bi ?_)
  show da _ _ _ _
  (refine aP (aL [] fun K hK=>?_);simp(disch:=omega) only[kc,aM,aa,be,aZ,aV,bE,aU,aO,aR,aX,aS,cw];apply hK)
  refine bJ rfl ?_
  ((refine bK [] [] (by simp) fun K hK=>?_);simp(disch:=omega) only[kc,aM,aa,aQ,aZ,aW,aV,ch,hb,fU,cg,packT,cW,ct,aU,Tryz.underlying79,dn,eG,aO,aR,aX,aS];apply hK)
  show da _ _ _ _
  have e1:IntKind.u32.wrap ((c:Int)+(b:Int))=(((c+b)%4294967296:Nat):Int):=by rw[<- q9];congr 1<;>omega
  have e2:Int.fdiv ((c:Int)+(b:Int)) (2^(min 32 IntKind.u64.bits))=(((c+b)/4294967296:Nat):Int):=by rw[<- Du];congr 1<;>omega
  (refine aL [] fun K hK=>?_;simp(disch:=omega) only[kc,aM,aa,ct,aU,Tryz.underlying78,dI,e1,cX,bU,bI,aV,ea,cg,gU,cellsOf,isPure,Nat.reduceMul,ap,List.contains_nil,lI,cQ,dX,kG,cU,eo,gn,eW,gE,fW,gI,and_true,fq,f4,jp,ew,bz,bx];apply hK)
  ((refine bK [] [] (by simp) fun K hK=>?_);simp(disch:=omega) only[kc,aM,aa,aU,aO,aR,aX,aN,ab,aS,Int.reduceLE,aw,e2];apply hK)
  show da _ _ _ _
  ((refine bK [] [] (by simp) fun K hK=>?_);simp(disch:=omega) only[kc,aM,aa,aU,aO,aR,aX,aN,ab,aS,cd];apply hK)
  refine⟨⟨i+1,o++[(c+b)%4294967296],(c+b)/4294967296,by omega,by omega,by simp[ho],?_⟩,by simp only;omega,aT ⟨rfl,trivial⟩ ?_⟩
  ·rw[<- h,fY hb,fj (by omega:m.length<=i),fj (by omega:m.length<=i+1),sumL,List.append_assoc];rfl
  simp[di,b9,b8]
 (refine aP (aL [] fun K hK=>?_);simp(disch:=omega) only[kc,aM,aa,de,Hm,be,aZ,aV,bE,aU,aO,aR,aX,aS,cp,bP,cQ,b7];apply hK)
 refine bL rfl (ck ?_)
 show da _ _ _ _
 have e1:IntKind.u32.wrap (c:Int)=(c:Int):=by rw[q9];omega
 (refine aL [] fun K hK=>?_;simp(disch:=omega) only[kc,aM,aa,ct,aU,Tryz.underlying78,dI,e1,cX,bU,bI,aV,ea,cg,gU,cellsOf,isPure,Nat.reduceMul,ap,List.contains_nil,lI,cQ,dX,kG,cU,eo,gn,eW,gE,fW,gI,and_true,fq,f4,jp,ew,bz,bx];apply hK)
 have hfin:sumL m n 0=o++[c]:=by rw[<- h,fj (by omega:m.length<=i),fj (by omega:n.length<=i),sumL]
 (refine bC ⟨.inr rfl,kQ 46 (eE rfl) ?_ rfl⟩;simp(disch:=omega) only[kc,cH,Tryz.results130,bH,gT,gh,bD,cQ,eB,eZ,de])
 simp only[hfin]
 rw[List.take_of_length_le (by simp)]
def diffL:List Nat->List Nat->Nat->List Nat
 |[],_,_=>[]
 |a::m,[],w=>(a+8589934592-w)%4294967296::diffL m [] (if a<w then 1 else 0)
 |a::m,b::n,w=>(a+8589934592-(w+b))%4294967296::diffL m n (if a<w+b then 1 else 0)
theorem i9: ∀(m n:List Nat) (w:Nat),Lmb m->Lmb n->w<=1->n.length<=m.length->natV n+w<=natV m->natV (diffL m n w)+(natV n+w)=natV m
 |[],[],w,_,_,_,_,h=>by simp[diffL,natV]at*;omega
 |[],b::n,w,_,_,_,h,_=>by simp at h
 |a::m,[],w,hm,hn,hw,hl,h=>by
  rw[fm]at hm
  simp only[natV]at h
  have:=i9 m [] (if a<w then 1 else 0) hm.2 hn (by split<;>omega) (by simp) (by simp only[natV];split<;>omega)
  simp only[diffL,natV]at this⊢
  split at this<;>rename_i hlt<;>simp only[hlt,if_true,if_false]<;>omega
 |a::m,b::n,w,hm,hn,hw,hl,h=>by
  rw[fm]at hm hn
  simp only[natV]at h
  have:=i9 m n (if a<w+b then 1 else 0) hm.2 hn.2 (by split<;>omega) (by simpa using hl) (by split<;>omega)
  simp only[diffL,natV]at this⊢
  split at this<;>rename_i hlt<;>simp only[hlt,if_true,if_false]<;>omega
theorem jJ: ∀(m n:List Nat) (w:Nat),Lmb (diffL m n w)
 |[],n,w=>by simp[diffL,Lmb]
 |a::m,[],w=>by rw[diffL,fm];exact⟨Nat.mod_lt _ (by omega),jJ m [] _⟩
 |a::m,b::n,w=>by rw[diffL,fm];exact⟨Nat.mod_lt _ (by omega),jJ m n _⟩
theorem jH: ∀(m n:List Nat) (w:Nat),(diffL m n w).length=m.length
 |[],n,w=>by simp[diffL]
 |a::m,[],w=>by simp[diffL,jH m []]
 |a::m,b::n,w=>by simp[diffL,jH m n]
structure KW (m n:List Nat) where
 i:Nat
 o:List Nat
 c:Nat
 hi:i<=m.length
 hc:c<=1
 ho:o.length=i
 h:o++diffL (m.drop i) (n.drop i) c=diffL m n 0
theorem lU (m n:List Nat) (lm:Lmb m) (ln:Lmb n) (bm:m.length<=1073741824) (bn:n.length<=1073741824):
  CallC Tryz.prog 131 [de m,de n] ⟨[],de (diffL m n 0)⟩:=by
 refine bG Tryz.func131 rfl (by kernel_rfl) ?_;rw[Tryz.ntmps131]
 (refine aL [] fun K hK=>?_;simp(disch:=omega) only[kc,aM,de,aa,aj,aN,ab];apply hK)
 (refine aL [] fun K hK=>?_;simp(disch:=omega) only[kc,aM,aN,ab];apply hK)
 (refine aL [] fun K hK=>?_;simp(disch:=omega) only[kc,aM,aN,ab];apply hK)
 (refine aP (aL [] fun K hK=>?_);simp(disch:=omega) only[kc,aM,aN,ab];apply hK)
 refine cC (G:=KW m n) (fun g=>⟨[de m,de n,jk,jk,.raw (.slice none 0 0),.one (.sl 37 0 0 g.o.length),.raw (.int .u64 (g.c:Int)),.raw (.int .i64 (g.i:Int)),jk,jk,jk,jk,jk,jk,jk,jk,jk,jk,jk,jk,jk,jk,jk,jk,jk,jk,jk,jk,jk,jk,jk,jk,jk,jk,jk,jk,jk,jk,jk,jk,jk,jk,jk,jk,jk,jk],Hm [(37,[⟨79,1,lc fU g.o⟩])]⟩) (fun g=>m.length-g.i) ⟨0,[],0,by omega,by omega,rfl,rfl⟩ ?_ ?_
 ·refine(iz (k:=5) (d:=37) 79 1 (by omega) rfl rfl).trans (aT ⟨rfl,trivial⟩ ?_)
  simp[di,b9,b8]
 rintro⟨i,o,c,hi,hc,ho,h⟩
 simp only
 by_cases hm:i<m.length
 ·obtain⟨a,ha⟩:=getElem?_of_lt hm
  have ha':=dY lm ha
  (refine aP (aL [] fun K hK=>?_);simp(disch:=omega) only[kc,aM,aa,de,Hm,be,aZ,aV,bE,aU,aO,aR,aX,aS,cw];apply hK)
  refine bJ rfl (bi ?_)
  refine aP (bA ?_)
  (refine aL [] fun K hK=>?_;simp(disch:=omega) only[kc,aM];apply hK)
  (refine aP (aL [] fun K hK=>?_);simp(disch:=omega) only[kc,aM,aa,be,aZ,aV,bE,aU,aO,aR,aX,aS];apply hK)
  by_cases hn:i<n.length
  ·obtain⟨b,hb⟩:=getElem?_of_lt hn
   have hb':=dY ln hb
   refine bJ rfl ?_
   ((refine bK [] [] (by simp) fun K hK=>?_);simp(disch:=omega) only[kc,aM,aa,cw,aQ,aZ,aW,aV,ch,hb,fU,cg,packT,cW,ct,aU,Tryz.underlying79,dn,eG,aO,aR,aX,aS];apply hK)
   show da _ _ _ _
   have e1:IntKind.u32.wrap (IntKind.u64.wrap ((a:Int)-((c:Int)+(b:Int))))=(((a+8589934592-(c+b))%4294967296:Nat):Int):=by rw[IntKind.wrap_u32,IntKind.wrap_u64];omega
   (refine aL [] fun K hK=>?_;simp(disch:=omega) only[kc,aM,aa,aQ,aZ,aW,aV,ch,ha,fU,cg,packT,cW,ct,aU,Tryz.underlying79,dn,eG,aO,aR,aX,aS,Tryz.underlying78,dI,e1,cX,bU,bI,ea,gU,cellsOf,isPure,Nat.reduceMul,ap,List.contains_nil,lI,cQ,dX,kG,cU,eo,gn,eW,gE,fW,gI,and_true,fq,f4,jp,ew,bz,bx];apply hK)
   (refine aL [] fun K hK=>?_;simp(disch:=omega) only[kc,aM,aN,ab];apply hK)
   (refine aL [] fun K hK=>?_;simp(disch:=omega) only[kc,aM,aa,aQ,aZ,aW,aV,ch,ha,fU,cg,packT,cW,ct,aU,Tryz.underlying79,dn,eG,aO,aR,aX,aS];apply hK)
   by_cases hlt:a<c+b
   ·refine bJ rfl ?_
    ((refine bK [] [] (by simp) fun K hK=>?_);simp(disch:=omega) only[kc,aM,cw,aN,ab];apply hK)
    show da _ _ _ _
    ((refine bK [] [] (by simp) fun K hK=>?_);simp(disch:=omega) only[kc,aM,aa,aU,aO,aR,aX,aN,ab,aS,cd];apply hK)
    refine⟨⟨i+1,o++[(a+8589934592-(c+b))%4294967296],1,by omega,by omega,by simp[ho],?_⟩,by simp only;omega,aT ⟨rfl,trivial⟩ ?_⟩
    ·rw[<- h,fY ha,fY hb,diffL,List.append_assoc,if_pos hlt];rfl
    simp[di,b9,b8]
   refine bL rfl (bi ?_)
   show da _ _ _ _
   ((refine bK [] [] (by simp) fun K hK=>?_);simp(disch:=omega) only[kc,aM,aa,eG,cp,aU,aO,aR,aX,aN,ab,aS,cd];apply hK)
   refine⟨⟨i+1,o++[(a+8589934592-(c+b))%4294967296],0,by omega,by omega,by simp[ho],?_⟩,by simp only;omega,aT ⟨rfl,trivial⟩ ?_⟩
   ·rw[<- h,fY ha,fY hb,diffL,List.append_assoc,if_neg hlt];rfl
   simp[di,b9,b8]
  refine bL rfl (bi ?_)
  show da _ _ _ _
  have e1:IntKind.u32.wrap (IntKind.u64.wrap ((a:Int)-(c:Int)))=(((a+8589934592-c)%4294967296:Nat):Int):=by rw[IntKind.wrap_u32,IntKind.wrap_u64];omega
  (refine aL [] fun K hK=>?_;simp(disch:=omega) only[kc,aM,aa,cp,aQ,aZ,aW,aV,ch,ha,fU,cg,packT,cW,ct,aU,Tryz.underlying79,dn,eG,aO,aR,aX,aS,Tryz.underlying78,dI,e1,cX,bU,bI,ea,gU,cellsOf,isPure,Nat.reduceMul,ap,List.contains_nil,lI,cQ,dX,kG,cU,eo,gn,eW,gE,fW,gI,and_true,fq,f4,jp,ew,bz,bx];apply hK)
  (refine aL [] fun K hK=>?_;simp(disch:=omega) only[kc,aM,aN,ab];apply hK)
  (refine aL [] fun K hK=>?_;simp(disch:=omega) only[kc,aM,aa,aQ,aZ,aW,aV,ch,ha,fU,cg,packT,cW,ct,aU,Tryz.underlying79,dn,eG,aO,aR,aX,aS];apply hK)
  by_cases hlt:a<c
  ·refine bJ rfl ?_
   ((refine bK [] [] (by simp) fun K hK=>?_);simp(disch:=omega) only[kc,aM,cw,aN,ab];apply hK)
   show da _ _ _ _
   ((refine bK [] [] (by simp) fun K hK=>?_);simp(disch:=omega) only[kc,aM,aa,aU,aO,aR,aX,aN,ab,aS,cd];apply hK)
   refine⟨⟨i+1,o++[(a+8589934592-c)%4294967296],1,by omega,by omega,by simp[ho],?_⟩,by simp only;omega,aT ⟨rfl,trivial⟩ ?_⟩
   ·rw[<- h,fY ha,fj (by omega:n.length<=i),fj (by omega:n.length<=i+1),diffL,List.append_assoc,if_pos hlt];rfl
   simp[di,b9,b8]
  refine bL rfl (bi ?_)
  show da _ _ _ _
  ((refine bK [] [] (by simp) fun K hK=>?_);simp(disch:=omega) only[kc,aM,aa,eG,cp,aU,aO,aR,aX,aN,ab,aS,cd];apply hK)
  refine⟨⟨i+1,o++[(a+8589934592-c)%4294967296],0,by omega,by omega,by simp[ho],?_⟩,by simp only;omega,aT ⟨rfl,trivial⟩ ?_⟩
  ·rw[<- h,fY ha,fj (by omega:n.length<=i),fj (by omega:n.length<=i+1),diffL,List.append_assoc,if_neg hlt];rfl
  simp[di,b9,b8]
 (refine aP (aL [] fun K hK=>?_);simp(disch:=omega) only[kc,aM,aa,de,Hm,be,aZ,aV,bE,aU,aO,aR,aX,aS,cp];apply hK)
 refine bL rfl (ck ?_)
 show da _ _ _ _
 (refine aL [] fun K hK=>?_;simp(disch:=omega) only[kc,aM];apply hK)
 have hfin:diffL m n 0=o:=by rw[<- h,fj (by omega:m.length<=i),diffL];simp
 (refine bC ⟨.inr rfl,kQ 37 (eE rfl) ?_ rfl⟩;simp(disch:=omega) only[kc,cH,Tryz.results131,bH,gT,gh,cQ,eB,eZ,de])
 simp only[hfin]
 rw[List.take_of_length_le (by simp)]
abbrev Bh (z:Int):Prop:=Sz z 536870912
theorem Bh.bg {z:Int} (h:Bh z):Bg z:=h.mono (by omega)
theorem Bh.len {z:Int} (h:Bh z):(bT z.natAbs).length<=536870912:=jI h
theorem Sz.neg {z:Int} {k:Nat} (h:Sz z k):Sz (-z) k:=by unfold Sz;rw[Int.natAbs_neg];exact h
theorem Bh.neg {z:Int} (h:Bh z):Bh (-z):=Sz.neg h
theorem DS {a b:Int} (h:decide (a<0)=decide (b<0)):iw (decide (a<0)) (a.natAbs+b.natAbs)=a+b:=by
 unfold iw
 by_cases ha:a<0<;>by_cases hb:b<0<;>simp[ha,hb]at h⊢ <;>omega
theorem wU {a b:Int} (h:decide (a<0)≠decide (b<0)) (hle:b.natAbs<=a.natAbs) {d:Nat} (hd:d+(b.natAbs+0)=a.natAbs):iw (decide (a<0)) d=a+b:=by
 unfold iw
 by_cases ha:a<0<;>by_cases hb:b<0<;>simp[ha,hb]at h⊢ <;>omega
theorem js {l m:List Nat} (hl:Lmb l) (cm:nN m) (h:natV m<=natV l):m.length<=l.length:=by
 by_cases hc:m.length<=l.length
 ·exact hc
 have:=jt hl cm (by omega)
 omega
theorem Dx (a b:Int) (ha:Bh a) (hb:Bh b):CallC Tryz.prog 101 [tZ a,tZ b] ⟨[],tZ (a+b)⟩:=by
 have la:=ha.len
 have lb:=hb.len
 have t1:=j8 (bT a.natAbs) ha.bg.len
 have t2:=j8 (bT b.natAbs) hb.bg.len
 rw[jh]at t1 t2
 by_cases hs:decide (a<0)=decide (b<0)
 ·have h3:=Lm (bT a.natAbs) (bT b.natAbs) (ce _) (ce _) (by omega) (by omega)
  have h4:=kN (decide (a<0)) (sumL (bT a.natAbs) (bT b.natAbs) 0) (mK _ _ _ (ce _) (ce _) (by omega)) (by rw[mX];omega)
  rw[lk,bN,bN,az,DS hs]at h4
  have hs':(decide (a<0)==decide (b<0))=true:=by simp[hs]
  refine bG Tryz.func101 rfl (by kernel_rfl) ?_;rw[Tryz.ntmps101]
  (refine aL [] fun K hK=>?_;simp(disch:=omega) only[kc,aM,aa,tZ,aj,dP,bU,bI,cellsOf,isPure,cQ,bD,af,cy,cx,ab,d4];apply hK)
  (refine cL cJ [⟨2,_,_,_,t1⟩,⟨5,_,_,_,t2⟩] [] (by kernel_rfl) (by simp) fun K hK=>?_;simp(disch:=omega) only[kc,de,bj.a,aM,aa,bY,aZ,df,dU,bD,af,d4,packT,dG,aY,bU,bI,ac,bO,cq,ae,bV,bW,bs,noRefTV,bf,bQ,bM,ak];apply hK)
  (refine aP (aL [] fun K hK=>?_);simp(disch:=omega) only[kc,aM,aa,bY,aZ,dv,eI,az,bD,af,d4,packT,d6,aU,aO,aR,aX,aS,fV,hs'];apply hK)
  refine bJ rfl ?_
  (refine cL cJ [⟨4,_,_,_,h3⟩,⟨5,_,_,_,h4⟩] [] (by kernel_rfl) (by simp) fun K hK=>?_;simp(disch:=omega) only[kc,de,tZ,bj.a,aM,aa,bY,aZ,dv,eI,az,bD,af,d4,packT,d6,aY,bU,bI,ac,bO,cq,ae,bV,bW,bs,noRefTV,bf,bQ,bM,ak,bo,ew,cU,bS,cellsOf,ai,isPure,cQ,bu,bz,bx];apply hK)
  (refine bC ⟨.inr rfl,bF rfl ?_ rfl⟩;simp(disch:=omega) only[kc,cH,Tryz.results101,bH,bD,af,d4,packT,bS,cf,aa,ai,tZ])
 have hs':(decide (a<0)==decide (b<0))=false:=by simpa using hs
 have h3:=AD (bT a.natAbs) (bT b.natAbs) (ce _) (ce _) (dV _) (dV _) (by omega) (by omega)
 rw[bN,bN]at h3
 by_cases hle:b.natAbs<=a.natAbs
 ·have hge:0<=ir a.natAbs b.natAbs:=by unfold ir;split<;>(try split)<;>omega
  have h4:=lU (bT a.natAbs) (bT b.natAbs) (ce _) (ce _) (by omega) (by omega)
  have h5:=kN (decide (a<0)) (diffL (bT a.natAbs) (bT b.natAbs) 0) (jJ _ _ _) (by rw[jH];omega)
  have hd:=i9 (bT a.natAbs) (bT b.natAbs) 0 (ce _) (ce _) (by omega) (js (ce _) (dV _) (by rw[bN,bN];exact hle)) (by rw[bN,bN];exact hle)
  rw[bN,bN]at hd
  rw[wU hs hle hd]at h5
  refine bG Tryz.func101 rfl (by kernel_rfl) ?_;rw[Tryz.ntmps101]
  (refine aL [] fun K hK=>?_;simp(disch:=omega) only[kc,aM,aa,tZ,aj,dP,bU,bI,cellsOf,isPure,cQ,bD,af,cy,cx,ab,d4];apply hK)
  (refine cL cJ [⟨2,_,_,_,t1⟩,⟨5,_,_,_,t2⟩] [] (by kernel_rfl) (by simp) fun K hK=>?_;simp(disch:=omega) only[kc,de,bj.a,aM,aa,bY,aZ,df,dU,bD,af,d4,packT,dG,aY,bU,bI,ac,bO,cq,ae,bV,bW,bs,noRefTV,bf,bQ,bM,ak];apply hK)
  (refine aP (aL [] fun K hK=>?_);simp(disch:=omega) only[kc,aM,aa,bY,aZ,dv,eI,az,bD,af,d4,packT,d6,aU,aO,aR,aX,aS,fV,hs'];apply hK)
  refine bL rfl (bi ?_)
  show da _ _ _ _
  (refine aP (aL [⟨2,_,_,_,h3⟩] fun K hK=>?_);simp(disch:=omega) only[kc,de,bj.a,aM,aa,aY,bU,bI,ac,bO,cq,ae,bV,bW,bs,noRefTV,bf,bQ,bM,aU,aO,aR,aX,aN,ab,aS,cw];apply hK)
  refine bJ rfl ?_
  (refine cL cJ [⟨4,_,_,_,h4⟩,⟨5,_,_,_,h5⟩] [] (by kernel_rfl) (by simp) fun K hK=>?_;simp(disch:=omega) only[kc,de,tZ,bj.a,aM,aa,bY,aZ,dv,eI,az,bD,af,d4,packT,d6,aY,bU,bI,ac,bO,cq,ae,bV,bW,bs,noRefTV,bf,bQ,bM,ak,bo,ew,cU,bS,cellsOf,ai,isPure,cQ,bu,bz,bx];apply hK)
  (refine bC ⟨.inr rfl,bF rfl ?_ rfl⟩;simp(disch:=omega) only[kc,cH,Tryz.results101,bH,bD,af,d4,packT,bS,cf,aa,ai,tZ])
 have hge:ir a.natAbs b.natAbs<0:=by unfold ir;split<;>(try split)<;>omega
 have h4:=lU (bT b.natAbs) (bT a.natAbs) (ce _) (ce _) (by omega) (by omega)
 have h5:=kN (decide (b<0)) (diffL (bT b.natAbs) (bT a.natAbs) 0) (jJ _ _ _) (by rw[jH];omega)
 have hd:=i9 (bT b.natAbs) (bT a.natAbs) 0 (ce _) (ce _) (by omega) (js (ce _) (dV _) (by rw[bN,bN];omega)) (by rw[bN,bN];omega)
 rw[bN,bN]at hd
 rw[wU (fun h=>hs h.symm) (by omega) hd,Int.add_comm]at h5
 refine bG Tryz.func101 rfl (by kernel_rfl) ?_;rw[Tryz.ntmps101]
 (refine aL [] fun K hK=>?_;simp(disch:=omega) only[kc,aM,aa,tZ,aj,dP,bU,bI,cellsOf,isPure,cQ,bD,af,cy,cx,ab,d4];apply hK)
 (refine cL cJ [⟨2,_,_,_,t1⟩,⟨5,_,_,_,t2⟩] [] (by kernel_rfl) (by simp) fun K hK=>?_;simp(disch:=omega) only[kc,de,bj.a,aM,aa,bY,aZ,df,dU,bD,af,d4,packT,dG,aY,bU,bI,ac,bO,cq,ae,bV,bW,bs,noRefTV,bf,bQ,bM,ak];apply hK)
 (refine aP (aL [] fun K hK=>?_);simp(disch:=omega) only[kc,aM,aa,bY,aZ,dv,eI,az,bD,af,d4,packT,d6,aU,aO,aR,aX,aS,fV,hs'];apply hK)
 refine bL rfl (bi ?_)
 show da _ _ _ _
 (refine aP (aL [⟨2,_,_,_,h3⟩] fun K hK=>?_);simp(disch:=omega) only[kc,de,bj.a,aM,aa,aY,bU,bI,ac,bO,cq,ae,bV,bW,bs,noRefTV,bf,bQ,bM,aU,aO,aR,aX,aN,ab,aS,cp];apply hK)
 refine bL rfl (bi ?_)
 show da _ _ _ _
 (refine cL cJ [⟨4,_,_,_,h4⟩,⟨5,_,_,_,h5⟩] [] (by kernel_rfl) (by simp) fun K hK=>?_;simp(disch:=omega) only[kc,de,tZ,bj.a,aM,aa,bY,aZ,dv,eI,az,bD,af,d4,packT,d6,aY,bU,bI,ac,bO,cq,ae,bV,bW,bs,noRefTV,bf,bQ,bM,ak,bo,ew,cU,bS,cellsOf,ai,isPure,cQ,bu,bz,bx];apply hK)
 (refine bC ⟨.inr rfl,bF rfl ?_ rfl⟩;simp(disch:=omega) only[kc,cH,Tryz.results101,bH,bD,af,d4,packT,bS,cf,aa,ai,tZ])
theorem I6 (a b:Int) (ha:Bh a) (hb:Bh b):CallC Tryz.prog 57 [tZ a,tZ b] ⟨[],tZ (a-b)⟩:=by
 have h1:=Jd b hb.bg
 have h2:=Dx a (-b) ha hb.neg
 rw[<- Int.sub_eq_add_neg]at h2
 refine bG Tryz.func57 rfl (by kernel_rfl) ?_;rw[Tryz.ntmps57]
 (refine aL [] fun K hK=>?_;simp(disch:=omega) only[kc,aM,aa,tZ,aj,dP,bU,bI,cellsOf,isPure,cQ,bD,af,cy,cx,ab,d4];apply hK)
 (refine cL cJ [⟨2,_,_,_,h1⟩,⟨3,_,_,_,h2⟩] [] (by kernel_rfl) (by simp) fun K hK=>?_;simp(disch:=omega) only[kc,tZ,bj.a,aM,aa,aZ,bD,af,d4,packT,bS,cf,ai,aY,bU,bI,ac,bO,cq,ae,bV,bW,bs,isPure,noRefTV,bf,bQ,bM,ak,bo,ew,cU,cellsOf,cQ,bu,bz,bx];apply hK)
 (refine bC ⟨.inr rfl,bF rfl ?_ rfl⟩;simp(disch:=omega) only[kc,cH,Tryz.results57,bH,bD,af,d4,packT,bS,cf,aa,ai,tZ])
theorem oW: ∀(l:List Nat) (k v o:Nat),l[k]?=some o->natV (l.set k v)+o*4294967296^k=natV l+v*4294967296^k
 |[],k,v,o,h=>by simp at h
 |a::l,0,v,o,h=>by simp at h;subst h;simp[natV];omega
 |a::l,k+1,v,o,h=>by
  simp at h
  have:=oW l k v o h
  simp only[List.set_cons_succ,natV,Nat.pow_succ]
  have e1:o*(4294967296^k*4294967296)=4294967296*(o*4294967296^k):=by rw[<- Nat.mul_assoc,Nat.mul_comm]
  have e2:v*(4294967296^k*4294967296)=4294967296*(v*4294967296^k):=by rw[<- Nat.mul_assoc,Nat.mul_comm]
  rw[e1,e2]
  omega
theorem vR {l:List Nat} (h:Lmb l) {k v:Nat} (hv:v<4294967296):Lmb (l.set k v):=fun a ha=>by
 rcases List.mem_or_eq_of_mem_set ha with ha|rfl
 ·exact h a ha
 exact hv
theorem r9 (n:Nat):natV (aj n 0)=0:=by induction n with
 |zero=>rfl
 |succ n ih=>simp[List.replicate_succ,natV,ih]
theorem dq {l:List Nat} {i a:Nat} (h:l[i]?=some a):natV (l.take (i+1))=natV (l.take i)+a*4294967296^i:=by
 obtain⟨h1,rfl⟩:=List.getElem?_eq_some_iff.1 h
 rw[List.take_succ_eq_append_getElem h1,jr,List.length_take,Nat.min_eq_left (by omega)]
 simp[natV,Nat.mul_comm]
theorem lY (n:Nat):aj n [AV.p (.raw (.int .u32 0))]=lc fU (aj n 0):=by simp[lc,fU]
theorem ff (l:List Nat) (k v:Nat):(lc fU l).set k [AV.p (.raw (.int .u32 (v:Int)))]=lc fU (l.set k v):=by simp[lc,fU,List.map_set]
structure BY (A B:List Nat) where
 i:Nat
 O:List Nat
 hi:i<=A.length
 len:O.length=A.length+B.length
 lmb:Lmb O
 val:natV O=natV (A.take i)*natV B
 zero: ∀k,i+B.length<=k->k<A.length+B.length->O[k]?=some 0
structure DC (A B:List Nat) (i a:Nat) where
 j:Nat
 O:List Nat
 c:Nat
 hj:j<=B.length
 len:O.length=A.length+B.length
 lmb:Lmb O
 hc:c<4294967296
 val:natV O+c*4294967296^(i+j)=natV (A.take i)*natV B+a*natV (B.take j)*4294967296^i
 zero: ∀k,i+B.length<=k->k<A.length+B.length->O[k]?=some 0
theorem nq {a b:Nat} (ha:a<4294967296) (hb:b<4294967296):a*b<=18446744065119617025:=by
 have:a*b<=4294967295*4294967295:=Nat.mul_le_mul (by omega) (by omega)
 omega
theorem uu {A B:List Nat} {i a:Nat} (g:DC A B i a) {y o:Nat} (hy:B[g.j]?=some y) (ho:g.O[i+g.j]?=some o) (hi:i<A.length) (ha:a<4294967296) (hy':y<4294967296):
  ∃g':DC A B i a,g'.j=g.j+1/\g'.O=g.O.set (i+g.j) ((g.c+(a*y+o))%4294967296)/\g'.c=(g.c+(a*y+o))/4294967296:=by
 have hjl:g.j<B.length:=(List.getElem?_eq_some_iff.1 hy).1
 have ho':=dY g.lmb ho
 have hb:=nq ha hy'
 have hc:=g.hc
 refine⟨⟨g.j+1,g.O.set (i+g.j) ((g.c+(a*y+o))%4294967296),(g.c+(a*y+o))/4294967296,hjl,by simp[g.len],vR g.lmb (Nat.mod_lt _ (by omega)),?_,?_,fun k h1 h2=>?_⟩,rfl,rfl,rfl⟩
 ·generalize a*y=p at*
  omega
 ·have h1:=oW g.O (i+g.j) ((g.c+(a*y+o))%4294967296) o ho
  have h2:=dq hy
  have h3:=g.val
  rw[h2,show i+(g.j+1)=i+g.j+1 by omega,Nat.pow_succ,Nat.mul_add a,Nat.add_mul]
  have e1:a*(y*4294967296^g.j)*4294967296^i=a*y*4294967296^(i+g.j):=by
   rw[<- Nat.mul_assoc,Nat.mul_assoc,<- Nat.pow_add,Nat.add_comm g.j i]
  rw[e1]
  generalize 4294967296^(i+g.j)=X at*
  generalize a*y=p at*
  have e2:(g.c+(p+o))=(g.c+(p+o))%4294967296+4294967296*((g.c+(p+o))/4294967296):=(Nat.mod_add_div _ _).symm
  generalize hr:(g.c+(p+o))%4294967296=r at*
  generalize hq:(g.c+(p+o))/4294967296=q at*
  generalize natV (g.O.set (i+g.j) r)=N at*
  generalize natV g.O=M at*
  generalize natV (A.take i)*natV B=U at*
  generalize a*natV (B.take g.j)*4294967296^i=V at*
  -- N + o X = M + r X, M + c X = U + V, c + p + o = r + B q
  have e3:g.c*X+(p*X+o*X)=r*X+q*(X*4294967296):=by
   have:=congrArg (· *X) e2
   simp only[Nat.add_mul]at this
   rw[this]
   congr 1
   rw[Nat.mul_comm 4294967296 q,Nat.mul_assoc,Nat.mul_comm 4294967296 X]
  omega
 rw[List.getElem?_set_ne (by omega)]
 exact g.zero k h1 h2
theorem ut {A B:List Nat} {i a:Nat} (hA:A[i]?=some a) (g:DC A B i a) (hj: ¬g.j<B.length): ∃g':BY A B,g'.i=i+1/\g'.O=g.O.set (i+B.length) g.c:=by
 have hi:=(List.getElem?_eq_some_iff.1 hA).1
 have hjl:=g.hj
 have e:g.j=B.length:=by omega
 have hz:=g.zero (i+B.length) (ai _) (by omega)
 refine⟨⟨i+1,g.O.set (i+B.length) g.c,hi,by simp[g.len],vR g.lmb g.hc,?_,fun k h1 h2=>?_⟩,rfl,rfl⟩
 ·have h1:=oW g.O (i+B.length) g.c 0 hz
  have h2:=g.val
  rw[e,List.take_length]at h2
  rw[dq hA,Nat.add_mul]
  have e1:a*4294967296^i*natV B=a*natV B*4294967296^i:=by rw[Nat.mul_assoc,Nat.mul_comm (4294967296^i),<- Nat.mul_assoc]
  rw[e1]
  omega
 rw[List.getElem?_set_ne (by omega)]
 exact g.zero k (by omega) h2
theorem Bj (a b:Int):iw (!(decide (a<0)==decide (b<0))) (a.natAbs*b.natAbs)=a*b:=by
 have h:=Int.natAbs_mul a b
 unfold iw
 rcases Int.lt_or_le a 0 with ha|ha<;>rcases Int.lt_or_le b 0 with hb|hb
 ·have:0<a*b:=Int.mul_pos_of_neg_of_neg ha hb
  simp[ha,hb];omega
 ·have:a*b<=0:=Int.mul_nonpos_of_nonpos_of_nonneg (by omega) hb
  have hb': ¬b<0:=by omega
  simp[ha,hb'];omega
 ·have:a*b<=0:=Int.mul_nonpos_of_nonneg_of_nonpos ha (by omega)
  have ha': ¬a<0:=by omega
  simp[ha',hb];omega
 have:0<=a*b:=Int.mul_nonneg ha hb
 have ha': ¬a<0:=by omega
 have hb': ¬b<0:=by omega
 simp[ha',hb'];omega
abbrev w7 (neg:Bool) (A:List Nat):List OObj:=[⟨42,2,[[.p (.raw (.bool neg)),.p (.sl (ls fU A))]]⟩]
abbrev yW:List OObj:=[⟨42,2,[[.raw (.bool false),.raw (.slice none 0 0)]]⟩]
theorem I2 (a b:Int) (ha:Bh a) (hb:Bh b):CallC Tryz.prog 21 [tZ a,tZ b] ⟨[],tZ (a*b)⟩:=by
 have la:=ha.len
 have lb:=hb.len
 have hlA:=ce a.natAbs
 have hlB:=ce b.natAbs
 have vA:=bN a.natAbs
 have vB:=bN b.natAbs
 refine bG Tryz.func21 rfl (by kernel_rfl) ?_;rw[Tryz.ntmps21]
 (refine aL [] fun K hK=>?_;simp(disch:=omega) only[kc,aM,aa,tZ,aj,dP,bU,bI,cellsOf,isPure,cQ,bD,af,cy,cx,ab,d4];apply hK)
 generalize bT a.natAbs=A at*
 generalize bT b.natAbs=B at*
 have e0:((A.length:Int)+(B.length:Int)).toNat=A.length+B.length:=by omega
 (refine aL [] fun K hK=>?_;simp(disch:=omega) only[kc,aM,aa,bY,aZ,df,dU,bD,af,d4,packT,dG,be,aV,bE,aU,aO,aR,aX,aS,cd,cY,bU,bI,ea,cg,gn,ab,and_true,e0,lY,cQ];apply hK)
 (refine aP (aL [] fun K hK=>?_);simp(disch:=omega) only[kc,aM,aa,bY,aZ,df,dU,bD,af,d4,packT,dG,be,aV,bE,aN,ab];apply hK)
 refine cC (G:=BY A B) (fun g=>⟨[jk,jk,.one (.ptr 2 0 0 0),.one (.ptr 3 0 0 0),.one (.ptr 4 0 0 0),.one (.sl 18 0 0 (A.length+B.length)),jk,jk,jk,jk,jk,jk,jk,jk,jk,jk,jk,jk,jk,jk,de A,.raw (.int .i64 (A.length:Int)),.raw (.int .i64 (g.i:Int)),jk,jk,jk,jk,jk,jk,jk,jk,jk,jk,jk,jk,jk,jk,jk,jk,jk,jk,jk,jk,jk,jk,jk,jk,jk,jk,jk,jk,jk,jk,jk,jk,jk,jk,jk,jk,jk,jk,jk,jk,jk,jk,jk,jk,jk,jk,jk,jk,jk,jk,jk,jk,jk,jk],Hm [(2,w7 (decide (a<0)) A),(3,w7 (decide (b<0)) B),(4,yW),(18,[⟨79,1,lc fU g.O⟩])]⟩) (fun g=>A.length-g.i) ⟨0,aj (A.length+B.length) 0,by omega,by simp,fun x hx=>by simp at hx;omega,by simp[r9,natV],fun k h1 h2=>by rw[List.getElem?_replicate,if_pos h2]⟩ ?_ ?_
 ·refine aT ⟨rfl,rfl,rfl,rfl,trivial⟩ ?_
  simp[di,b9,b8]
 rintro⟨i,O,hi,len,lmb,val,zero⟩
 simp only
 by_cases hm:i<A.length
 ·obtain⟨x,hx⟩:=getElem?_of_lt hm
  have hx':=dY hlA hx
  (refine aL [] fun K hK=>?_;simp(disch:=omega) only[kc,aM,de,Hm,aU,aO,aR,aX,aS,cw];apply hK)
  refine aP (bJ rfl (bi ?_))
  refine aP (bA ?_)
  (refine aL [] fun K hK=>?_;simp(disch:=omega) only[kc,aM,aa,aQ,aZ,aW,aV,ch,hx,fU,cg,packT,cW];apply hK)
  (refine aL [] fun K hK=>?_;simp(disch:=omega) only[kc,aM,aN,ab];apply hK)
  (refine aP (aL [] fun K hK=>?_);simp(disch:=omega) only[kc,aM,aa,bY,aZ,df,dU,af,d4,packT,dG,be,aV,bE,aN,ab];apply hK)
  refine cC (G:=DC A B i x) (fun g=>⟨[jk,jk,.one (.ptr 2 0 0 0),.one (.ptr 3 0 0 0),.one (.ptr 4 0 0 0),.one (.sl 18 0 0 (A.length+B.length)),.raw (.int .i64 (i:Int)),.raw (.int .u32 (x:Int)),.raw (.int .u64 (g.c:Int)),jk,jk,jk,jk,jk,jk,jk,jk,jk,jk,jk,de A,.raw (.int .i64 (A.length:Int)),.raw (.int .i64 (i:Int)),jk,jk,jk,jk,jk,de B,.raw (.int .i64 (B.length:Int)),.raw (.int .i64 (g.j:Int)),jk,jk,jk,jk,jk,jk,jk,jk,jk,jk,jk,jk,jk,jk,jk,jk,jk,jk,jk,jk,jk,jk,jk,jk,jk,jk,jk,jk,jk,jk,jk,jk,jk,jk,jk,jk,jk,jk,jk,jk,jk,jk,jk,jk,jk,jk],Hm [(2,w7 (decide (a<0)) A),(3,w7 (decide (b<0)) B),(4,yW),(18,[⟨79,1,lc fU g.O⟩])]⟩) (fun g=>B.length-g.j) ⟨0,O,0,by omega,len,lmb,by omega,by simpa[natV] using val,zero⟩ ?_ ?_
  ·refine aT ⟨rfl,rfl,rfl,rfl,trivial⟩ ?_
   simp[di,b9,b8]
  intro g
  by_cases hn:g.j<B.length
  ·obtain⟨y,hy⟩:=getElem?_of_lt hn
   have hy':=dY hlB hy
   have hlen:=g.len
   obtain⟨o,ho⟩:=getElem?_of_lt (show i+g.j<g.O.length by omega)
   have ho':=dY g.lmb ho
   have hb:=nq hx' hy'
   have hgc:=g.hc
   obtain⟨g',q1,q2,q3⟩:=uu g hy ho hm hx' hy'
   have e1:((i:Int)+(g.j:Int)).toNat=i+g.j:=by omega
   have e2:(x:Int)*(y:Int)=((x*y:Nat):Int):=by simp
   generalize hp:x*y=p at*
   have e3:IntKind.u32.wrap ((g.c:Int)+((p:Int)+(o:Int)))=(((g.c+(p+o))%4294967296:Nat):Int):=by rw[<- q9];congr 1<;>omega
   have e4:Int.fdiv ((g.c:Int)+((p:Int)+(o:Int))) (2^(min 32 IntKind.u64.bits))=(((g.c+(p+o))/4294967296:Nat):Int):=by rw[<- Du];congr 1<;>omega
   (refine aL [] fun K hK=>?_;simp(disch:=omega) only[kc,aM,de,Hm,aU,aO,aR,aX,aS,cw];apply hK)
   refine aP (bJ rfl (bi ?_))
   refine aP (bA ?_)
   (refine aL [] fun K hK=>?_;simp(disch:=omega) only[kc,aM,aa,aQ,aZ,aW,aV,ch,hy,fU,cg,packT,cW];apply hK)
   (refine aL [] fun K hK=>?_;simp(disch:=omega) only[kc,aM,aa,ct,aU,Tryz.underlying79,dn,eG,aO,aR,aX,aS,e2,cd,aQ,aZ,aW,e1,aV,af,d4,cg,cQ,dp,fU,ho,packT,cW];apply hK)
   (refine aL [] fun K hK=>?_;simp(disch:=omega) only[kc,aM,aa,aU,aO,aR,aX,aS,cd,ct,Tryz.underlying78,dI,e3,aQ,aZ,aW,e1,aV,af,d4,cg,cQ,bo,ew,cU,dp,fU,ho,cellsOf,ai,isPure,bu,ff,bz,bx];apply hK)
   ((refine bK [] [] (by simp) fun K hK=>?_);simp(disch:=omega) only[kc,aM,aa,aU,aO,aR,aX,aN,ab,aS,Int.reduceLE,aw,e4];apply hK)
   show da _ _ _ _
   ((refine bK [] [] (by simp) fun K hK=>?_);simp(disch:=omega) only[kc,aM,aU,aO,aR,aX,aN,ab,aS,cd];apply hK)
   refine⟨g',by omega,aT ⟨rfl,rfl,rfl,by rw[q2];rfl,trivial⟩ ?_⟩
   simp[di,b9,b8,q1,q3]
  have hgj:=g.hj
  have hgc:=g.hc
  have hgl:=g.len
  obtain⟨g',q1,q2⟩:=ut hx g hn
  have e1:((i:Int)+(B.length:Int)).toNat=i+B.length:=by omega
  have e3:IntKind.u32.wrap (g.c:Int)=(g.c:Int):=by rw[q9];omega
  (refine aL [] fun K hK=>?_;simp(disch:=omega) only[kc,aM,de,Hm,aU,aO,aR,aX,aS,cp];apply hK)
  refine aP (bL rfl (ck ?_))
  show da _ _ _ _
  have hz:=g.zero (i+B.length) (ai _) (by omega)
  ((refine bK [] [] (by simp) fun K hK=>?_);simp(disch:=omega) only[kc,aM,aa,bY,aZ,df,dU,af,d4,packT,dG,be,aV,bE,aU,aO,aR,aX,aS,cd,ct,Tryz.underlying78,dI,e3,aQ,aW,e1,cg,cQ,bo,ew,cU,dp,fU,hz,cellsOf,ai,isPure,bu,ff,bz,bx];apply hK)
  show da _ _ _ _
  ((refine bK [] [] (by simp) fun K hK=>?_);simp(disch:=omega) only[kc,aM,aU,aO,aR,aX,aN,ab,aS,cd];apply hK)
  refine⟨g',by omega,aT ⟨rfl,rfl,rfl,by rw[q2];rfl,trivial⟩ ?_⟩
  simp[di,b9,b8,q1]
 have hfin:natV O=a.natAbs*b.natAbs:=by
  have:i=A.length:=by omega
  rw[val,this,List.take_length,vA,vB]
 have h4:=kN (!(decide (a<0)==decide (b<0))) O lmb (by omega)
 rw[hfin,Bj]at h4
 (refine aL [] fun K hK=>?_;simp(disch:=omega) only[kc,aM,de,Hm,aU,aO,aR,aX,aS,cp];apply hK)
 refine aP (bL rfl (ck ?_))
 show da _ _ _ _
 refine da.weak (fp 18 (eE rfl)) ?_
 have eT:List.take (A.length+B.length) O=O:=List.take_of_length_le (by omega)
 simp(disch:=omega) only[kc,tZ,gT,gh,af,cQ,d4,eB,eT,eZ]
 (refine aL [⟨6,_,_,_,h4⟩] fun K hK=>?_;simp(disch:=omega) only[kc,de,tZ,bj.a,aM,aa,bY,aZ,dv,eI,az,bD,af,d4,packT,d6,aU,aO,aR,aX,aS,fV,aY,bU,bI,ac,bO,cq,ae,bV,bW,bs,noRefTV,bf,bQ,bM,bo,ew,cU,bS,cellsOf,ai,isPure,cQ,bu,bz,bx];apply hK)
 (refine bC ⟨.inr rfl,bF rfl ?_ rfl⟩;simp(disch:=omega) only[kc,cH,Tryz.results21,bH,bD,af,d4,packT,bS,cf,aa,ai])
end Go.Proofs.YtfgeomlagfomgaaGreatDoor
