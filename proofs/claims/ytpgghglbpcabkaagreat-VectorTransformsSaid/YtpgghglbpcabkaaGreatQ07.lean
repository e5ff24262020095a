/-
  Part 8 of a proof (walks and plain facts).
-/
import Derived.Test.YtpgghglbpcabkaaGreatQ06
set_option linter.all false
set_option maxRecDepth 100000
set_option maxHeartbeats 64000000
namespace Go.Proofs.YtpgghglbpcabkaaGreat
open Go.RowKit
theorem mK {n:Nat} (h: ¬n=0):n/4294967296<n:=Nat.div_lt_self (by omega) (by omega)
def be (n:Nat):List Nat:=if n=0 then[]else n%4294967296::be (n/4294967296)
termination_by n
decreasing_by exact mK (by assumption)
theorem dx:be 0=[]:=by rw[be];simp
theorem mL {n:Nat} (h:n≠0):be n=n%4294967296::be (n/4294967296):=by rw[be];simp[h]
theorem aY (n:Nat):natV (be n)=n:=by
 induction n using Nat.strongRecOn with
 |_ n ih=>
  by_cases h:n=0
  ·subst h;rw[dx];rfl
  ·rw[mL h,natV,ih _ (mK h)];omega
theorem bz (n:Nat):Lmb (be n):=by
 induction n using Nat.strongRecOn with
 |_ n ih=>
  by_cases h:n=0
  ·subst h;rw[dx];intro a ha;simp at ha
  ·rw[mL h]
   intro a ha
   rcases List.mem_cons.1 ha with rfl|ha
   ·omega
   ·exact ih _ (mK h) a ha
theorem dr (n:Nat):nj (be n):=by
 induction n using Nat.strongRecOn with
 |_ n ih=>
  by_cases h:n=0
  ·subst h;rw[dx];simp[nj]
  ·rw[mL h]
   by_cases h2:n/4294967296=0
   ·rw[h2,dx];simp[nj];omega
   ·have:=ih _ (mK h)
    rw[mL h2]at this⊢
    unfold nj at*
    rw[List.getLast?_cons_cons];exact this
theorem Ei {l:List Nat} (h1:Lmb l) (h2:nj l):l=be (natV l):=
 Gy h1 (bz _) h2 (dr _) (aY _).symm
theorem fl {l:List Nat} (h1:Lmb l):eH l=be (natV l):=by
 rw[Ei (FV h1) (FT l),CT]
theorem gP (n:Nat):eH (be n)=be n:=qG (dr n)
theorem vS {n:Nat}:be n=[]↔n=0:=⟨fun h=>by rw[<- aY n,h];rfl,fun h=>by rw[h,dx]⟩
theorem je {n k:Nat} (h:n<4294967296^k):(be n).length<=k:=yZ (dr n) (by rw[aY];exact h)
theorem gc {n:Nat}:(be n).length=0↔n=0:=by rw[List.length_eq_zero_iff,vS]
def Sz (z:Int) (k:Nat):Prop:=z.natAbs<4294967296^k
theorem Sz.len {z:Int} {k:Nat} (h:Sz z k):(be z.natAbs).length<=k:=je h
theorem Sz.mono {z:Int} {k l:Nat} (h:Sz z k) (hl:k<=l):Sz z l:=Nat.lt_of_lt_of_le h (Nat.pow_le_pow_right (by omega) hl)
def fZ (z:Int):List PV:=[.raw (.bool (decide (z<0))),.sl (ls fU (be z.natAbs))]
def cZ (z:Int):List AV:=[.p (.raw (.bool (decide (z<0)))),.p (.sl (ls fU (be z.natAbs)))]
abbrev tZ (z:Int):TV:= .agg [.p (.raw (.bool (decide (z<0)))),.p (.sl (ls fU (be z.natAbs)))]
theorem mi (neg:Bool) (n:Nat):(gE neg n).natAbs=n:=by unfold gE;split<;>simp
theorem wC (neg:Bool) (n:Nat):decide (gE neg n<0)=(neg&&decide (0<n)):=by
 unfold gE
 cases neg with
 |true=>simp
 |false=>simp
theorem ju (neg:Bool) (l:List Nat) (h:Lmb l) (hb:l.length<=1073741824):CallC Tryz.prog 97 [.raw (.bool neg),ca l] ⟨[],tZ (gE neg (natV l))⟩:=by
 have ht:=iS l hb
 rw[fl h]at ht
 have hlen:(be (natV l)).length<=1073741824:=by rw[<- fl h];exact Nat.le_trans (FU l) hb
 refine ax Tryz.func97 rfl (by kernel_rfl) ?_;rw[Tryz.ntmps97]
 (refine aa [] fun K hK=>?_;simp(disch:=omega) only[kc,ab,ca,Nat.reduceAdd,List.replicate,bu,aN,aC,bi,Value.oneCell',bH];apply hK)
 (refine aa [⟨1,_,_,_,ht⟩] fun K hK=>?_;simp(disch:=omega) only[kc,ca,ar.a,ab,Nat.reduceAdd,ai,aN,aC,List.find?_cons,aD,aX,CallRes.plain,aF,aH,ap,noRefTV,am,aG,aE];apply hK)
 cases neg with
 |false=>
  (refine aa [] fun K hK=>?_;simp(disch:=omega) only[kc,ab,Nat.reduceAdd,aB,aw,au,an,Option.map_none,ak,ac,Value.oneCell',aQ,eC,bi,fO,fm,cellsOf,Nat.reduceLeDiff,Nat.le_refl,bH,az,df,bJ,aM,aJ,isPure,putCells,aS,aT];apply hK)
  refine ay ⟨.inr rfl,aO rfl ?_ rfl⟩
  simp(disch:=omega) only[kc,bE,Tryz.results97,aP,aJ,cP,aA,aM,aW,Nat.reduceAdd,Nat.le_refl,tZ]
  simp[tZ,mi,wC]
 |true=>
  (refine aa [] fun K hK=>?_;simp(disch:=omega) only[kc,ab,Nat.reduceAdd,aB,aw,au,an,aR,ak,ac,Value.oneCell',bH,ah,aQ,eC,bi,fO,fm,cellsOf,Nat.reduceLeDiff,Nat.le_refl,az,df,bJ,aM,aJ,isPure,putCells,aS,aT];apply hK)
  refine ay ⟨.inr rfl,aO rfl ?_ rfl⟩
  simp(disch:=omega) only[kc,bE,Tryz.results97,aP,aJ,cP,aA,aM,aW,Nat.reduceAdd,Nat.le_refl,tZ]
  have:(0<(be (natV l)).length)↔0<natV l:=by
   have:=gc (n:=natV l)
   omega
  simp[tZ,mi,wC,this]
abbrev Bg (z:Int):Prop:=Sz z 1073741824
theorem Bg.len {z:Int} (h:Bg z):(be z.natAbs).length<=1073741824:=je h
theorem zJ (z:Int):gE (!decide (z<0)) z.natAbs= -z:=by unfold gE;by_cases h:z<0<;>simp[h]<;>omega
theorem vV (z:Int):gE (decide (z<0)) z.natAbs=z:=by unfold gE;by_cases h:z<0<;>simp[h]<;>omega
theorem ER (z:Int) (h:Bg z):CallC Tryz.prog 103 [tZ z] ⟨[],tZ (-z)⟩:=by
 have ht:=ju (!decide (z<0)) (be z.natAbs) (bz _) h.len
 rw[aY,zJ]at ht
 refine ax Tryz.func103 rfl (by kernel_rfl) ?_;rw[Tryz.ntmps103]
 (refine aa [] fun K hK=>?_;simp(disch:=omega) only[kc,ab,tZ,List.replicate,cf,aN,aC,cellsOf,isPure,Nat.reduceAdd,bH,bu,bi,Value.oneCell',aJ,Nat.reduceEqDiff];apply hK)
 (refine aa [⟨5,_,_,_,ht⟩] fun K hK=>?_;simp(disch:=omega) only[kc,ca,tZ,ar.a,ab,Nat.reduceAdd,aK,au,bP,db,Nat.add_zero,aJ,Nat.reduceEqDiff,aA,cE,bW,ak,dc,bU,cH,cj,ai,aN,aC,List.find?_cons,aD,aX,CallRes.plain,aF,aH,ap,noRefTV,am,aG,aE,az,df,bJ,aM,cellsOf,Nat.le_refl,isPure,bH,putCells,aS,aT];apply hK)
 (refine ay ⟨.inr rfl,aO rfl ?_ rfl⟩;simp(disch:=omega) only[kc,bE,Tryz.results103,aP,aJ,Nat.reduceEqDiff,cP,aA,aM,aW,Nat.reduceAdd,Nat.le_refl,tZ])
theorem Ay (z:Int) (h:Bg z):CallC Tryz.prog 57 [tZ z] ⟨[],tZ z.natAbs⟩:=by
 have ht:=ju false (be z.natAbs) (bz _) h.len
 rw[aY,show gE false z.natAbs=z.natAbs from rfl]at ht
 refine ax Tryz.func57 rfl (by kernel_rfl) ?_;rw[Tryz.ntmps57]
 (refine aa [] fun K hK=>?_;simp(disch:=omega) only[kc,ab,tZ,List.replicate,cf,aN,aC,cellsOf,isPure,Nat.reduceAdd,bH,bu,bi,Value.oneCell',aJ,Nat.reduceEqDiff];apply hK)
 (refine aa [⟨2,_,_,_,ht⟩] fun K hK=>?_;simp(disch:=omega) only[kc,ca,tZ,bf,ar.a,ab,Nat.reduceAdd,aK,au,bU,cH,aJ,Nat.reduceEqDiff,aA,cj,ai,aN,aC,List.find?_cons,aD,ac,Value.oneCell',aX,CallRes.plain,aF,aH,ap,noRefTV,am,aG,aE,az,df,bJ,aM,cellsOf,Nat.le_refl,isPure,bH,putCells,aS,aT];apply hK)
 (refine ay ⟨.inr rfl,aO rfl ?_ rfl⟩;simp(disch:=omega) only[kc,bE,Tryz.results57,aP,aJ,Nat.reduceEqDiff,cP,aA,aM,aW,Nat.reduceAdd,Nat.le_refl,tZ,bf])
theorem ES (z:Int) (h:Bg z):CallC Tryz.prog 100 [tZ z] ⟨[],tZ z⟩:=by
 have ht:=ju (decide (z<0)) (be z.natAbs) (bz _) h.len
 rw[aY,vV]at ht
 refine ax Tryz.func100 rfl (by kernel_rfl) ?_;rw[Tryz.ntmps100]
 (refine aa [] fun K hK=>?_;simp(disch:=omega) only[kc,ab,tZ,List.replicate,cf,aN,aC,cellsOf,isPure,Nat.reduceAdd,bH,bu,bi,Value.oneCell',aJ,Nat.reduceEqDiff];apply hK)
 (refine aa [⟨4,_,_,_,ht⟩] fun K hK=>?_;simp(disch:=omega) only[kc,ca,tZ,ar.a,ab,Nat.reduceAdd,aK,au,bP,db,Nat.add_zero,aJ,Nat.reduceEqDiff,aA,cE,bU,cH,cj,ai,aN,aC,List.find?_cons,aD,aX,CallRes.plain,aF,aH,ap,noRefTV,am,aG,aE,az,df,bJ,aM,cellsOf,Nat.le_refl,isPure,bH,putCells,aS,aT];apply hK)
 (refine ay ⟨.inr rfl,aO rfl ?_ rfl⟩;simp(disch:=omega) only[kc,bE,Tryz.results100,aP,aJ,Nat.reduceEqDiff,cP,aA,aM,aW,Nat.reduceAdd,Nat.le_refl,tZ])
theorem wO (neg:Bool) (u:Nat) (hu:u<18446744073709551616):CallC Tryz.prog 91 [.raw (.bool neg),.raw (.int .u64 u)] ⟨[],tZ (gE neg u)⟩:=by
 have ht:=ju neg [u%4294967296,u/4294967296] (by intro a ha;simp at ha;omega) (by simp)
 rw[u7]at ht
 have e1:IntKind.u32.wrap (u:Int)=((u%4294967296:Nat):Int):=by rw[IntKind.wrap_u32];omega
 have e2:IntKind.u32.wrap ((u:Int).fdiv (2^(min (32:Int).toNat IntKind.u64.bits)))=((u/4294967296:Nat):Int):=by
  rw[IntKind.wrap_u32]
  show(Int.fdiv (u:Int) 4294967296)%4294967296=_
  rw[Int.fdiv_eq_ediv_of_nonneg _ (by omega)]
  omega
 simp only[Int.reduceToNat]at e2
 refine ax Tryz.func91 rfl (by kernel_rfl) ?_;rw[Tryz.ntmps91]
 (refine aa [] fun K hK=>?_;simp(disch:=omega) only[kc,ab,Nat.reduceAdd,List.replicate,bu,aN,aC,bi,Value.oneCell',bH];apply hK)
 (refine aa [⟨7,_,_,_,ht⟩] fun K hK=>?_;simp(disch:=omega) only[kc,ca,Bb,fU,jt,tZ,ar.a,ab,Nat.reduceAdd,bF,ak,Tryz.underlying88,cJ,e1,ac,Value.oneCell',ah,Int.reduceLE,Int.reduceToNat,e2,b8,aN,aC,an,dn,bs,fW,cellsOf,isPure,Nat.reduceMul,Nat.reduceLeDiff,List.contains_nil,ka,bH,ai,List.find?_cons,aD,aX,CallRes.plain,aF,aH,ap,noRefTV,am,aG,aE,az,df,bJ,aM,aJ,Nat.le_refl,putCells,aS,aT];apply hK)
 (refine ay ⟨.inr rfl,aO rfl ?_ rfl⟩;simp(disch:=omega) only[kc,bE,Tryz.results91,aP,aJ,cP,aA,aM,aW,Nat.reduceAdd,Nat.le_refl,tZ])
theorem gB (n:Int) (h1: -9223372036854775808<=n) (h2:n<=9223372036854775807):CallC Tryz.prog 54 [.raw (.int .i64 n)] ⟨[],tZ n⟩:=by
 by_cases hn:n<0
 ·have ht:=wO true n.natAbs (by omega)
  have e1:IntKind.u64.wrap (0-IntKind.u64.wrap n)=((n.natAbs:Nat):Int):=by rw[IntKind.wrap_u64,IntKind.wrap_u64];omega
  rw[show gE true n.natAbs=n by unfold gE;simp;omega]at ht
  refine ax Tryz.func54 rfl (by kernel_rfl) ?_;rw[Tryz.ntmps54]
  (refine aa [] fun K hK=>?_;simp(disch:=omega) only[kc,ab,List.replicate,bu,aN,aC,bi,Value.oneCell',Nat.reduceAdd,bH];apply hK)
  (refine ae (aa [] fun K hK=>?_);simp(disch:=omega) only[kc,ab,ak,ac,Value.oneCell',ah,bA];apply hK)
  refine af rfl (fun _=>?_) (fun h=>by simp at h)
  (refine aa [⟨3,_,_,_,ht⟩] fun K hK=>?_;simp(disch:=omega) only[kc,tZ,bA,ar.a,ab,Nat.reduceAdd,bF,ak,Tryz.underlying2,cn,bW,dc,e1,ai,aN,aC,List.find?_cons,aD,ac,Value.oneCell',aX,CallRes.plain,aF,aH,ap,noRefTV,am,aG,aE,az,df,bJ,aM,aJ,cellsOf,Nat.le_refl,isPure,bH,putCells,aS,aT];apply hK)
  (refine ay ⟨.inr rfl,aO rfl ?_ rfl⟩;simp(disch:=omega) only[kc,bE,Tryz.results54,aP,aJ,cP,aA,aM,aW,Nat.reduceAdd,Nat.le_refl,tZ,bA])
 ·have ht:=wO false n.natAbs (by omega)
  have e1:IntKind.u64.wrap n=((n.natAbs:Nat):Int):=by rw[IntKind.wrap_u64];omega
  rw[show gE false n.natAbs=n by unfold gE;simp;omega]at ht
  refine ax Tryz.func54 rfl (by kernel_rfl) ?_;rw[Tryz.ntmps54]
  (refine aa [] fun K hK=>?_;simp(disch:=omega) only[kc,ab,List.replicate,bu,aN,aC,bi,Value.oneCell',Nat.reduceAdd,bH];apply hK)
  (refine ae (aa [] fun K hK=>?_);simp(disch:=omega) only[kc,ab,ak,ac,Value.oneCell',ah,bf];apply hK)
  refine af rfl (fun h=>by simp at h) (fun _=>aq ?_)
  show bT _ _ _ _
  (refine aa [⟨2,_,_,_,ht⟩] fun K hK=>?_;simp(disch:=omega) only[kc,tZ,bf,ar.a,ab,Nat.reduceAdd,bF,ak,Tryz.underlying2,cn,e1,ai,aN,aC,List.find?_cons,aD,ac,Value.oneCell',aX,CallRes.plain,aF,aH,ap,noRefTV,am,aG,aE,az,df,bJ,aM,aJ,cellsOf,Nat.le_refl,isPure,bH,putCells,aS,aT];apply hK)
  (refine ay ⟨.inr rfl,aO rfl ?_ rfl⟩;simp(disch:=omega) only[kc,bE,Tryz.results54,aP,aJ,cP,aA,aM,aW,Nat.reduceAdd,Nat.le_refl,tZ,bf])
theorem mj (z:Int) (h:Bg z):CallC Tryz.prog 94 [tZ z] ⟨[],.raw (.int .i64 (sg z))⟩:=by
 have ht:=iS (be z.natAbs) h.len
 rw[gP]at ht
 have hl:=gc (n:=z.natAbs)
 rcases Int.lt_trichotomy z 0 with hz|hz|hz
 ·have e:sg z= -1:=by simp[sg,hz]
  have hl':(be z.natAbs).length≠0:=by omega
  rw[e]
  refine ax Tryz.func94 rfl (by kernel_rfl) ?_;rw[Tryz.ntmps94]
  (refine aa [] fun K hK=>?_;simp(disch:=omega) only[kc,ab,tZ,bA,List.replicate,cf,aN,aC,cellsOf,isPure,Nat.reduceAdd,bH,ac,Value.oneCell'];apply hK)
  refine ae (aI ?_)
  (refine aa [⟨2,_,_,_,ht⟩] fun K hK=>?_;simp(disch:=omega) only[kc,ca,ar.a,ab,Nat.reduceAdd,aK,au,bU,cH,aJ,aA,cj,ai,aN,aC,List.find?_cons,aD,aX,CallRes.plain,aF,aH,ap,noRefTV,am,aG,aE,aw,an,aR,ak,ac,Value.oneCell',ah,bf];apply hK)
  refine af rfl (fun h=>by simp at h) (fun _=>?_)
  (refine aa [] fun K hK=>?_;simp(disch:=omega) only[kc,ab,Nat.reduceAdd,aK,au,bP,db,Nat.add_zero,aJ,aA,cE];apply hK)
  refine af rfl (fun _=>?_) (fun h=>by simp at h)
  (refine aa [] fun K hK=>?_;simp(disch:=omega) only[kc,ab,ac,Value.oneCell'];apply hK)
  (refine ay ⟨.inr rfl,aO rfl ?_ rfl⟩;simp(disch:=omega) only[bE,Tryz.results94,aP,List.getElem?_cons_succ,List.getElem?_cons_zero])
 ·subst hz
  rw[show sg 0=0 from rfl]
  rw[Int.natAbs_zero,dx]at ht
  rw[show tZ 0= .agg [.p (.raw (.bool false)),.p (.sl (ls fU []))]from by simp[tZ,dx]]
  refine ax Tryz.func94 rfl (by kernel_rfl) ?_;rw[Tryz.ntmps94]
  (refine aa [] fun K hK=>?_;simp(disch:=omega) only[kc,ab,jt,List.replicate,cf,aN,aC,cellsOf,isPure,Nat.reduceAdd,bH,ac,Value.oneCell'];apply hK)
  refine ae (aI ?_)
  (refine aa [⟨2,_,_,_,ht⟩] fun K hK=>?_;simp(disch:=omega) only[kc,ca,jt,ar.a,ab,Nat.reduceAdd,aK,au,bU,cH,aJ,aA,cj,ai,aN,aC,List.find?_cons,aD,aX,CallRes.plain,aF,aH,ap,noRefTV,am,aG,aE,aw,an,ak,ac,Value.oneCell',ah,bA];apply hK)
  refine af rfl (fun _=>?_) (fun h=>by simp at h)
  (refine aa [] fun K hK=>?_;simp(disch:=omega) only[kc,ab,ac,Value.oneCell'];apply hK)
  (refine ay ⟨.inr rfl,aO rfl ?_ rfl⟩;simp(disch:=omega) only[bE,Tryz.results94,aP,List.getElem?_cons_succ,List.getElem?_cons_zero])
 ·have e:sg z=1:=by unfold sg;rw[if_neg (by omega),if_neg (by omega)]
  have hl':(be z.natAbs).length≠0:=by omega
  rw[e]
  refine ax Tryz.func94 rfl (by kernel_rfl) ?_;rw[Tryz.ntmps94]
  (refine aa [] fun K hK=>?_;simp(disch:=omega) only[kc,ab,tZ,bf,List.replicate,cf,aN,aC,cellsOf,isPure,Nat.reduceAdd,bH,ac,Value.oneCell'];apply hK)
  refine ae (aI ?_)
  (refine aa [⟨2,_,_,_,ht⟩] fun K hK=>?_;simp(disch:=omega) only[kc,ca,ar.a,ab,Nat.reduceAdd,aK,au,bU,cH,aJ,aA,cj,ai,aN,aC,List.find?_cons,aD,aX,CallRes.plain,aF,aH,ap,noRefTV,am,aG,aE,aw,an,aR,ak,ac,Value.oneCell',ah,bf];apply hK)
  refine af rfl (fun h=>by simp at h) (fun _=>?_)
  (refine aa [] fun K hK=>?_;simp(disch:=omega) only[kc,ab,Nat.reduceAdd,aK,au,bP,db,Nat.add_zero,aJ,aA,cE];apply hK)
  refine af rfl (fun h=>by simp at h) (fun _=>aq ?_)
  show bT _ _ _ _
  (refine aa [] fun K hK=>?_;simp(disch:=omega) only[kc,ab,ac,Value.oneCell'];apply hK)
  (refine ay ⟨.inr rfl,aO rfl ?_ rfl⟩;simp(disch:=omega) only[bE,Tryz.results94,aP,List.getElem?_cons_succ,List.getElem?_cons_zero])
theorem AK (l m:List Nat) (ll:Lmb l) (lm:Lmb m) (cl:nj l) (cm:nj m) (bl:l.length<=1073741824) (bm:m.length<=1073741824):
  CallC Tryz.prog 95 [ca l,ca m] ⟨[],.raw (.int .i64 (gQ (natV l) (natV m)))⟩:=by
 rcases Nat.lt_trichotomy l.length m.length with hlt|heq|hgt
 ·rw[mH (iL ll cm hlt)]
  refine ax Tryz.func95 rfl (by kernel_rfl) ?_;rw[Tryz.ntmps95]
  (refine aa [] fun K hK=>?_;simp(disch:=omega) only[kc,ab,ca,Nat.reduceAdd,List.replicate,ac,Value.oneCell'];apply hK)
  (refine ae (aa [] fun K hK=>?_);simp(disch:=omega) only[kc,ab,Nat.reduceAdd,aw,au,an,aR,ak,ah,bf,Bool.not_false];apply hK)
  refine af rfl (fun _=>?_) (fun h=>by simp at h)
  (refine ae (aa [] fun K hK=>?_);simp(disch:=omega) only[kc,ab,Nat.reduceAdd,aw,au,an,aR,ak,ah,bA];apply hK)
  refine af rfl (fun _=>?_) (fun h=>by simp at h)
  (refine aa [] fun K hK=>?_;simp(disch:=omega) only[kc,ab,ac,Value.oneCell'];apply hK)
  (refine ay ⟨.inr rfl,aO rfl ?_ rfl⟩;simp(disch:=omega) only[bE,Tryz.results95,aP,List.getElem?_cons_succ,List.getElem?_cons_zero])
 ·refine ax Tryz.func95 rfl (by kernel_rfl) ?_;rw[Tryz.ntmps95]
  (refine aa [] fun K hK=>?_;simp(disch:=omega) only[kc,ab,ca,Nat.reduceAdd,List.replicate,ac,Value.oneCell'];apply hK)
  (refine ae (aa [] fun K hK=>?_);simp(disch:=omega) only[kc,ab,Nat.reduceAdd,aw,au,an,aR,ak,ah,bA];apply hK)
  refine af rfl (fun h=>by simp at h) (fun _=>aq ?_)
  show bT _ _ _ _
  (refine ae (aa [] fun K hK=>?_);simp(disch:=omega) only[kc,ab,Nat.reduceAdd,aw,au,an,aR,ak,ac,Value.oneCell',ah,bC];apply hK)
  refine bD (G:={k:Nat//k<=l.length/\l.drop k=m.drop k}) (fun k=>⟨[ca l,ca m,jk,jk,.raw (.int .i64 0),.raw (.int .i64 ((k.1:Int)-1)),jk,jk,jk,jk,jk,jk,jk,jk,jk,jk,jk,jk,jk,jk,jk,jk,jk,jk,jk,jk,jk,jk,jk,jk,jk,jk,jk,jk,jk,jk,jk,jk,jk,jk,jk],Hm []⟩) (fun k=>k.1) ⟨l.length,Nat.le_refl _,by rw[List.drop_length,heq,List.drop_length]⟩ ?_ ?_
  ·refine aj trivial ?_
   simp[b9,bo,bj]
  ·rintro⟨k,hk,hd⟩
   simp only
   by_cases h0:0<k
   ·obtain⟨a,ha⟩:=getElem?_of_lt (l:=l) (k:=k-1) (by omega)
    obtain⟨b,hb⟩:=getElem?_of_lt (l:=m) (k:=k-1) (by omega)
    have e1:((k:Int)-1).toNat=k-1:=by omega
    have hd':l.drop (k-1+1)=m.drop (k-1+1):=by rw[show k-1+1=k by omega];exact hd
    (refine ae (aa [] fun K hK=>?_);simp(disch:=omega) only[kc,ab,ca,Hm,ak,ac,Value.oneCell',ah,bA];apply hK)
    refine af rfl (fun _=>aq ?_) (fun h=>by simp at h)
    refine ae (aI ?_)
    (refine bS bY [] [] (by kernel_rfl) (by simp) fun K hK=>?_;simp(disch:=omega) only[kc,ab,Nat.reduceAdd,ag,au,ao,e1,an,bG,ha,fU,bs,aA,bN,hb,ak,ah];apply hK)
    rcases Nat.lt_trichotomy a b with hab|hab|hab
    ·rw[mH (lf ll ha hb hd' hab)]
     refine af rfl (fun _=>?_) (fun h=>by simp at h<;>omega)
     (refine ae (bS bY [] [] (by kernel_rfl) (by simp) fun K hK=>?_);simp(disch:=omega) only[kc,ab,Nat.reduceAdd,bf,Bool.not_false,ag,au,ao,e1,an,bG,ha,fU,bs,aA,bN,hb,ak,ah,bA];apply hK)
     refine af rfl (fun _=>?_) (fun h=>by simp at h)
     (refine aa [] fun K hK=>?_;simp(disch:=omega) only[kc,ab,ac,Value.oneCell'];apply hK)
     (refine ay ⟨.inr rfl,aO rfl ?_ rfl⟩;simp(disch:=omega) only[bE,Tryz.results95,aP,List.getElem?_cons_succ,List.getElem?_cons_zero])
    ·subst hab
     refine af rfl (fun h=>by simp at h) (fun _=>aq ?_)
     show bT _ _ _ _
     ((refine aU [] [] (by simp) fun K hK=>?_);simp(disch:=omega) only[kc,ab,Nat.reduceAdd,decide_true,ak,ac,Value.oneCell',ah,bC];apply hK)
     refine⟨⟨k-1,by omega,uv ha hb hd'⟩,by simp only;omega,aj trivial ?_⟩
     have e2:((k-1:Nat):Int)=(k:Int)-1:=by omega
     simp[b9,bo,bj,e2]
    ·rw[qV (lf lm hb ha hd'.symm hab)]
     refine af rfl (fun _=>?_) (fun h=>by simp at h<;>omega)
     (refine ae (bS bY [] [] (by kernel_rfl) (by simp) fun K hK=>?_);simp(disch:=omega) only[kc,ab,Nat.reduceAdd,bf,Bool.not_false,ag,au,ao,e1,an,bG,ha,fU,bs,aA,bN,hb,ak,ah];apply hK)
     refine af rfl (fun h=>by simp at h<;>omega) (fun _=>aq ?_)
     show bT _ _ _ _
     (refine aa [] fun K hK=>?_;simp(disch:=omega) only[kc,ab,ac,Value.oneCell'];apply hK)
     (refine ay ⟨.inr rfl,aO rfl ?_ rfl⟩;simp(disch:=omega) only[bE,Tryz.results95,aP,List.getElem?_cons_succ,List.getElem?_cons_zero])
   ·have hk0:k=0:=by omega
    subst hk0
    have hlm:l=m:=by simpa using hd
    rw[show gQ (natV l) (natV m)=0 by rw[hlm];simp[gQ]]
    (refine ae (aa [] fun K hK=>?_);simp(disch:=omega) only[kc,ab,ca,Hm,ak,ac,Value.oneCell',ah,bf];apply hK)
    refine af rfl (fun h=>by simp at h) (fun _=>bv ?_)
    show bT _ _ _ _
    (refine aa [] fun K hK=>?_;simp(disch:=omega) only[kc,ab,ac,Value.oneCell'];apply hK)
    (refine ay ⟨.inr rfl,aO rfl ?_ rfl⟩;simp(disch:=omega) only[bE,Tryz.results95,aP,List.getElem?_cons_succ,List.getElem?_cons_zero])
 ·rw[qV (iL lm cl hgt)]
  refine ax Tryz.func95 rfl (by kernel_rfl) ?_;rw[Tryz.ntmps95]
  (refine aa [] fun K hK=>?_;simp(disch:=omega) only[kc,ab,ca,Nat.reduceAdd,List.replicate,ac,Value.oneCell'];apply hK)
  (refine ae (aa [] fun K hK=>?_);simp(disch:=omega) only[kc,ab,Nat.reduceAdd,aw,au,an,aR,ak,ah,bf,Bool.not_false];apply hK)
  refine af rfl (fun _=>?_) (fun h=>by simp at h)
  (refine ae (aa [] fun K hK=>?_);simp(disch:=omega) only[kc,ab,Nat.reduceAdd,aw,au,an,aR,ak,ah,bf];apply hK)
  refine af rfl (fun h=>by simp at h) (fun _=>aq ?_)
  show bT _ _ _ _
  (refine aa [] fun K hK=>?_;simp(disch:=omega) only[kc,ab,ac,Value.oneCell'];apply hK)
  (refine ay ⟨.inr rfl,aO rfl ?_ rfl⟩;simp(disch:=omega) only[bE,Tryz.results95,aP,List.getElem?_cons_succ,List.getElem?_cons_zero])
def nH (a b:Int):Int:=if a<b then -1 else if a=b then 0 else 1
theorem yi (z:Int): -1<=sg z/\sg z<=1:=by unfold sg;split<;>(try split)<;>omega
theorem y6 (a b:Nat): -1<=gQ a b/\gQ a b<=1:=by unfold gQ;split<;>(try split)<;>omega
theorem GF {a b:Int} (h:sg a≠sg b):nH a b=if sg a<sg b then -1 else 1:=by
 unfold sg nH at*
 (repeat' split at*)<;>omega
theorem GD {a b:Int} (h:sg a=sg b):nH a b=sg a*gQ a.natAbs b.natAbs:=by
 unfold sg nH gQ at*
 (repeat' split at*)<;>omega
theorem tV (a b:Int) (ha:Bg a) (hb:Bg b):CallC Tryz.prog 56 [tZ a,tZ b] ⟨[],.raw (.int .i64 (nH a b))⟩:=by
 have h1:=mj a ha
 have h2:=mj b hb
 have t1:=iS (be a.natAbs) ha.len
 have t2:=iS (be b.natAbs) hb.len
 rw[gP]at t1 t2
 have h3:=AK (be a.natAbs) (be b.natAbs) (bz _) (bz _) (dr _) (dr _) ha.len hb.len
 rw[aY,aY]at h3
 have r1:=yi a
 have r2:=yi b
 have r3:=y6 a.natAbs b.natAbs
 have r4: -1<=sg a*gQ a.natAbs b.natAbs/\sg a*gQ a.natAbs b.natAbs<=1:=by
  have:sg a= -1\/sg a=0\/sg a=1:=by omega
  rcases this with h|h|h<;>rw[h]<;>omega
 by_cases hs:sg a=sg b
 ·rw[GD hs]
  refine ax Tryz.func56 rfl (by kernel_rfl) ?_;rw[Tryz.ntmps56]
  (refine aa [] fun K hK=>?_;simp(disch:=omega) only[kc,ab,Nat.reduceAdd,tZ,List.replicate,cf,aN,aC,cellsOf,isPure,bH,aJ,Nat.reduceEqDiff,ac,Value.oneCell'];apply hK)
  (refine bS bY [⟨1,_,_,_,h1⟩,⟨3,_,_,_,h2⟩] [] (by kernel_rfl) (by simp) fun K hK=>?_;simp(disch:=omega) only[kc,tZ,ar.a,ab,Nat.reduceAdd,au,aJ,Nat.reduceEqDiff,aA,aM,aW,Nat.le_refl,ai,aN,aC,List.find?_cons,aD,aX,CallRes.plain,aF,aH,ap,isPure,noRefTV,am,aG,aE,Nat.reduceBEq];apply hK)
  (refine ae (aa [] fun K hK=>?_);simp(disch:=omega) only[kc,ab,Nat.reduceAdd,ak,ah,bA];apply hK)
  refine af rfl (fun h=>by simp at h<;>omega) (fun _=>aq ?_)
  show bT _ _ _ _
  (refine bS bY [⟨3,_,_,_,t1⟩,⟨6,_,_,_,t2⟩,⟨7,_,_,_,h3⟩] [] (by kernel_rfl) (by simp) fun K hK=>?_;simp(disch:=omega) only[kc,ca,ar.a,ab,Nat.reduceAdd,aK,au,bU,cH,aJ,Nat.reduceEqDiff,aA,cj,ai,aN,aC,List.find?_cons,aD,aX,CallRes.plain,aF,aH,ap,noRefTV,am,aG,aE,Nat.reduceBEq,ak,ah,bC];apply hK)
  (refine ay ⟨.inr rfl,aO rfl ?_ rfl⟩;simp(disch:=omega) only[bE,Tryz.results56,aP,List.getElem?_cons_succ,List.getElem?_cons_zero])
 ·rw[GF hs]
  refine ax Tryz.func56 rfl (by kernel_rfl) ?_;rw[Tryz.ntmps56]
  (refine aa [] fun K hK=>?_;simp(disch:=omega) only[kc,ab,Nat.reduceAdd,tZ,List.replicate,cf,aN,aC,cellsOf,isPure,bH,aJ,Nat.reduceEqDiff,ac,Value.oneCell'];apply hK)
  (refine bS bY [⟨1,_,_,_,h1⟩,⟨3,_,_,_,h2⟩] [] (by kernel_rfl) (by simp) fun K hK=>?_;simp(disch:=omega) only[kc,tZ,ar.a,ab,Nat.reduceAdd,au,aJ,Nat.reduceEqDiff,aA,aM,aW,Nat.le_refl,ai,aN,aC,List.find?_cons,aD,aX,CallRes.plain,aF,aH,ap,isPure,noRefTV,am,aG,aE,Nat.reduceBEq];apply hK)
  (refine ae (aa [] fun K hK=>?_);simp(disch:=omega) only[kc,ab,Nat.reduceAdd,ak,ah,bf,Bool.not_false];apply hK)
  refine af rfl (fun _=>?_) (fun h=>by simp at h<;>omega)
  (refine ae (aa [] fun K hK=>?_);simp(disch:=omega) only[kc,ab,Nat.reduceAdd,ak,ah];apply hK)
  by_cases hlt:sg a<sg b
  ·rw[if_pos hlt]
   refine af rfl (fun _=>?_) (fun h=>by simp at h<;>omega)
   (refine aa [] fun K hK=>?_;simp(disch:=omega) only[kc,ab,bA,ac,Value.oneCell'];apply hK)
   (refine ay ⟨.inr rfl,aO rfl ?_ rfl⟩;simp(disch:=omega) only[bE,Tryz.results56,aP,List.getElem?_cons_succ,List.getElem?_cons_zero])
  ·rw[if_neg hlt]
   refine af rfl (fun h=>by simp at h<;>omega) (fun _=>aq ?_)
   show bT _ _ _ _
   (refine aa [] fun K hK=>?_;simp(disch:=omega) only[kc,ab,bf,ac,Value.oneCell'];apply hK)
   (refine ay ⟨.inr rfl,aO rfl ?_ rfl⟩;simp(disch:=omega) only[bE,Tryz.results56,aP,List.getElem?_cons_succ,List.getElem?_cons_zero])
def sumL:List Nat->List Nat->Nat->List Nat
 |[],[],c=>[c]
 |a::m,[],c=>(c+a)%4294967296::sumL m [] ((c+a)/4294967296)
 |[],b::n,c=>(c+b)%4294967296::sumL [] n ((c+b)/4294967296)
 |a::m,b::n,c=>(c+a+b)%4294967296::sumL m n ((c+a+b)/4294967296)
theorem kq: ∀(m n:List Nat) (c:Nat),natV (sumL m n c)=natV m+natV n+c
 |[],[],c=>by simp[sumL,natV]
 |a::m,[],c=>by simp only[sumL,natV,kq m []];omega
 |[],b::n,c=>by simp only[sumL,natV,kq [] n];omega
 |a::m,b::n,c=>by simp only[sumL,natV,kq m n];omega
theorem ez {a:Nat} {l:List Nat}:Lmb (a::l)↔a<4294967296/\Lmb l:=by simp[Lmb]
theorem l7: ∀(m n:List Nat) (c:Nat),Lmb m->Lmb n->c<=1->Lmb (sumL m n c)
 |[],[],c,_,_,hc=>by simp[sumL,Lmb];omega
 |a::m,[],c,hm,hn,hc=>by
  rw[ez]at hm
  rw[sumL,ez]
  exact⟨Nat.mod_lt _ (by omega),l7 m [] _ hm.2 hn (by omega)⟩
 |[],b::n,c,hm,hn,hc=>by
  rw[ez]at hn
  rw[sumL,ez]
  exact⟨Nat.mod_lt _ (by omega),l7 [] n _ hm hn.2 (by omega)⟩
 |a::m,b::n,c,hm,hn,hc=>by
  rw[ez]at hm hn
  rw[sumL,ez]
  exact⟨Nat.mod_lt _ (by omega),l7 m n _ hm.2 hn.2 (by omega)⟩
theorem mn: ∀(m n:List Nat) (c:Nat),(sumL m n c).length=max m.length n.length+1
 |[],[],c=>by simp[sumL]
 |a::m,[],c=>by simp[sumL,mn m []]
 |[],b::n,c=>by simp[sumL,mn [] n]
 |a::m,b::n,c=>by simp[sumL,mn m n]
theorem eX {l:List Nat} {i a:Nat} (h:l[i]?=some a):l.drop i=a::l.drop (i+1):=by
 obtain⟨h1,rfl⟩:=List.getElem?_eq_some_iff.1 h
 exact List.drop_eq_getElem_cons h1
theorem eu {l:List Nat} {i:Nat} (h:l.length<=i):l.drop i=[]:=List.drop_eq_nil_iff.2 h
theorem dp {l:List Nat} {i a:Nat} (hl:Lmb l) (h:l[i]?=some a):a<4294967296:=hl a (List.mem_of_getElem? h)
theorem rp (x:Nat):IntKind.u32.wrap (x:Int)=((x%4294967296:Nat):Int):=by rw[IntKind.wrap_u32];omega
theorem Dc (x:Nat):(x:Int).fdiv (2^(min 32 IntKind.u64.bits))=((x/4294967296:Nat):Int):=by
 show Int.fdiv (x:Int) 4294967296=_
 rw[Int.fdiv_eq_ediv_of_nonneg _ (by omega)];omega
structure KH (m n:List Nat) where
 i:Nat
 o:List Nat
 c:Nat
 hi:i<=max m.length n.length
 hc:c<=1
 ho:o.length=i
 h:o++sumL (m.drop i) (n.drop i) c=sumL m n 0
theorem Km (m n:List Nat) (lm:Lmb m) (ln:Lmb n) (bm:m.length<=1073741824) (bn:n.length<=1073741824):
  CallC Tryz.prog 154 [ca m,ca n] ⟨[],ca (sumL m n 0)⟩:=by
 refine ax Tryz.func154 rfl (by kernel_rfl) ?_;rw[Tryz.ntmps154]
 (refine aa [] fun K hK=>?_;simp(disch:=omega) only[kc,ab,ca,Nat.reduceAdd,List.replicate,ac,Value.oneCell'];apply hK)
 (refine aa [] fun K hK=>?_;simp(disch:=omega) only[kc,ab,ac,Value.oneCell'];apply hK)
 (refine aa [] fun K hK=>?_;simp(disch:=omega) only[kc,ab,ac,Value.oneCell'];apply hK)
 (refine ae (aa [] fun K hK=>?_);simp(disch:=omega) only[kc,ab,ac,Value.oneCell'];apply hK)
 refine bD (G:=KH m n) (fun g=>⟨[ca m,ca n,jk,jk,.raw (.slice none 0 0),.one (.sl 46 0 0 g.o.length),.raw (.int .u64 (g.c:Int)),.raw (.int .i64 (g.i:Int)),jk,jk,jk,jk,jk,jk,jk,jk,jk,jk,jk,jk,jk,jk,jk,jk,jk,jk,jk,jk,jk,jk,jk,jk,jk,jk,jk,jk,jk,jk,jk,jk,jk,jk,jk,jk,jk,jk,jk,jk,jk,jk,jk,jk,jk,jk],Hm [(46,[⟨118,1,lc fU g.o⟩])]⟩) (fun g=>max m.length n.length-g.i) ⟨0,[],0,by omega,by omega,rfl,rfl⟩ ?_ ?_
 ·refine(fG (k:=5) (d:=46) 118 1 (by omega) rfl rfl).trans (aj ⟨rfl,trivial⟩ ?_)
  simp[b9,bo,bj]
 ·rintro⟨i,o,c,hi,hc,ho,h⟩
  simp only
  have hmx:max m.length n.length<=1073741824:=by omega
  by_cases hm:i<m.length
  ·obtain⟨a,ha⟩:=getElem?_of_lt hm
   have ha':=dp lm ha
   (refine ae (aa [] fun K hK=>?_);simp(disch:=omega) only[kc,ab,Nat.reduceAdd,ca,Hm,aw,au,an,aR,ak,ah,bA,aB,reduceCtorEq,Option.map_none,aQ,ac,Value.oneCell'];apply hK)
   refine af rfl (fun _=>aq ?_) (fun h=>by simp at h<;>omega)
   refine ae (aI ?_)
   (refine ae (aa [] fun K hK=>?_);simp(disch:=omega) only[kc,ab,Nat.reduceAdd,aw,au,an,aR,ak,ah,bA];apply hK)
   refine af rfl (fun _=>?_) (fun h=>by simp at h<;>omega)
   ((refine aU [] [] (by simp) fun K hK=>?_);simp(disch:=omega) only[kc,ab,Nat.reduceAdd,ag,au,ao,an,bG,ha,fU,bs,aA,bN,bF,ak,Tryz.underlying118,cn,dS,ah];apply hK)
   show bT _ _ _ _
   (refine ae (aa [] fun K hK=>?_);simp(disch:=omega) only[kc,ab,Nat.reduceAdd,aw,au,an,aR,ak,ah];apply hK)
   by_cases hn:i<n.length
   ·obtain⟨b,hb⟩:=getElem?_of_lt hn
    have hb':=dp ln hb
    refine af rfl (fun _=>?_) (fun h=>by simp at h<;>omega)
    ((refine aU [] [] (by simp) fun K hK=>?_);simp(disch:=omega) only[kc,ab,Nat.reduceAdd,bA,ag,au,ao,an,bG,hb,fU,bs,aA,bN,bF,ak,Tryz.underlying118,cn,dS,ah];apply hK)
    show bT _ _ _ _
    have e1:IntKind.u32.wrap ((c:Int)+(a:Int)+(b:Int))=(((c+a+b)%4294967296:Nat):Int):=by rw[<- rp];congr 1<;>omega
    have e2:Int.fdiv ((c:Int)+(a:Int)+(b:Int)) (2^(min 32 IntKind.u64.bits))=(((c+a+b)/4294967296:Nat):Int):=by rw[<- Dc];congr 1<;>omega
    (refine aa [] fun K hK=>?_;simp(disch:=omega) only[kc,ab,Nat.reduceAdd,bF,ak,Tryz.underlying88,cJ,e1,b8,aN,aC,an,dn,bs,fW,cellsOf,isPure,Nat.reduceMul,Nat.reduceLeDiff,List.contains_nil,ka,bH,cW,iX,bJ,newsOf,eA,eI,eJ,ef,eZ,and_true,d7,em,iI,df,aS,aT];apply hK)
    ((refine aU [] [] (by simp) fun K hK=>?_);simp(disch:=omega) only[kc,ab,Nat.reduceAdd,ak,ac,Value.oneCell',ah,Int.reduceLE,Int.reduceToNat,e2];apply hK)
    show bT _ _ _ _
    ((refine aU [] [] (by simp) fun K hK=>?_);simp(disch:=omega) only[kc,ab,Nat.reduceAdd,ak,ac,Value.oneCell',ah,bC];apply hK)
    refine⟨⟨i+1,o++[(c+a+b)%4294967296],(c+a+b)/4294967296,by omega,by omega,by simp[ho],?_⟩,by simp only;omega,aj ⟨rfl,trivial⟩ ?_⟩
    ·rw[<- h,eX ha,eX hb,sumL,List.append_assoc];rfl
    ·simp[b9,bo,bj]
   ·refine af rfl (fun h=>by simp at h<;>omega) (fun _=>aq ?_)
    show bT _ _ _ _
    have e1:IntKind.u32.wrap ((c:Int)+(a:Int))=(((c+a)%4294967296:Nat):Int):=by rw[<- rp];congr 1<;>omega
    have e2:Int.fdiv ((c:Int)+(a:Int)) (2^(min 32 IntKind.u64.bits))=(((c+a)/4294967296:Nat):Int):=by rw[<- Dc];congr 1<;>omega
    (refine aa [] fun K hK=>?_;simp(disch:=omega) only[kc,ab,Nat.reduceAdd,bf,bF,ak,Tryz.underlying88,cJ,e1,b8,aN,aC,an,dn,bs,fW,cellsOf,isPure,Nat.reduceMul,Nat.reduceLeDiff,List.contains_nil,ka,bH,cW,iX,bJ,newsOf,eA,eI,eJ,ef,eZ,and_true,d7,em,iI,df,aS,aT];apply hK)
    ((refine aU [] [] (by simp) fun K hK=>?_);simp(disch:=omega) only[kc,ab,Nat.reduceAdd,ak,ac,Value.oneCell',ah,Int.reduceLE,Int.reduceToNat,e2];apply hK)
    show bT _ _ _ _
    ((refine aU [] [] (by simp) fun K hK=>?_);simp(disch:=omega) only[kc,ab,Nat.reduceAdd,ak,ac,Value.oneCell',ah,bC];apply hK)
    refine⟨⟨i+1,o++[(c+a)%4294967296],(c+a)/4294967296,by omega,by omega,by simp[ho],?_⟩,by simp only;omega,aj ⟨rfl,trivial⟩ ?_⟩
    ·rw[<- h,eX ha,eu (by omega:n.length<=i),eu (by omega:n.length<=i+1),sumL,List.append_assoc];rfl
    ·simp[b9,bo,bj]
  ·by_cases hn:i<n.length
   ·obtain⟨b,hb⟩:=getElem?_of_lt hn
    have hb':=dp ln hb
    (refine ae (aa [] fun K hK=>?_);simp(disch:=omega) only[kc,ab,Nat.reduceAdd,ca,Hm,aw,au,an,aR,ak,ah,bf,aB,bA,bH,aQ];apply hK)
    refine af rfl (fun _=>aq ?_) (fun h=>by simp at h<;>omega)
    refine ae (aI ?_)
    (refine ae (aa [] fun K hK=>?_);simp(disch:=omega) only[kc,ab,Nat.reduceAdd,aw,au,an,aR,ak,ah,bf];apply hK)
    refine af rfl (fun h=>by simp at h<;>omega) (fun _=>aq ?_)
    show bT _ _ _ _
    (refine ae (aa [] fun K hK=>?_);simp(disch:=omega) only[kc,ab,Nat.reduceAdd,aw,au,an,aR,ak,ah,bA];apply hK)
    refine af rfl (fun _=>?_) (fun h=>by simp at h<;>omega)
    ((refine aU [] [] (by simp) fun K hK=>?_);simp(disch:=omega) only[kc,ab,Nat.reduceAdd,ag,au,ao,an,bG,hb,fU,bs,aA,bN,bF,ak,Tryz.underlying118,cn,dS,ah];apply hK)
    show bT _ _ _ _
    have e1:IntKind.u32.wrap ((c:Int)+(b:Int))=(((c+b)%4294967296:Nat):Int):=by rw[<- rp];congr 1<;>omega
    have e2:Int.fdiv ((c:Int)+(b:Int)) (2^(min 32 IntKind.u64.bits))=(((c+b)/4294967296:Nat):Int):=by rw[<- Dc];congr 1<;>omega
    (refine aa [] fun K hK=>?_;simp(disch:=omega) only[kc,ab,Nat.reduceAdd,bF,ak,Tryz.underlying88,cJ,e1,b8,aN,aC,an,dn,bs,fW,cellsOf,isPure,Nat.reduceMul,Nat.reduceLeDiff,List.contains_nil,ka,bH,cW,iX,bJ,newsOf,eA,eI,eJ,ef,eZ,and_true,d7,em,iI,df,aS,aT];apply hK)
    ((refine aU [] [] (by simp) fun K hK=>?_);simp(disch:=omega) only[kc,ab,Nat.reduceAdd,ak,ac,Value.oneCell',ah,Int.reduceLE,Int.reduceToNat,e2];apply hK)
    show bT _ _ _ _
    ((refine aU [] [] (by simp) fun K hK=>?_);simp(disch:=omega) only[kc,ab,Nat.reduceAdd,ak,ac,Value.oneCell',ah,bC];apply hK)
    refine⟨⟨i+1,o++[(c+b)%4294967296],(c+b)/4294967296,by omega,by omega,by simp[ho],?_⟩,by simp only;omega,aj ⟨rfl,trivial⟩ ?_⟩
    ·rw[<- h,eX hb,eu (by omega:m.length<=i),eu (by omega:m.length<=i+1),sumL,List.append_assoc];rfl
    ·simp[b9,bo,bj]
   ·(refine ae (aa [] fun K hK=>?_);simp(disch:=omega) only[kc,ab,Nat.reduceAdd,ca,Hm,aw,au,an,aR,ak,ah,bf,aB,bH,aQ];apply hK)
    refine af rfl (fun h=>by simp at h<;>omega) (fun _=>bv ?_)
    show bT _ _ _ _
    have e1:IntKind.u32.wrap (c:Int)=(c:Int):=by rw[rp];omega
    (refine aa [] fun K hK=>?_;simp(disch:=omega) only[kc,ab,Nat.reduceAdd,bF,ak,Tryz.underlying88,cJ,e1,b8,aN,aC,an,dn,bs,fW,cellsOf,isPure,Nat.reduceMul,Nat.reduceLeDiff,List.contains_nil,ka,bH,cW,iX,bJ,newsOf,eA,eI,eJ,ef,eZ,and_true,d7,em,iI,df,aS,aT];apply hK)
    have hfin:sumL m n 0=o++[c]:=by rw[<- h,eu (by omega:m.length<=i),eu (by omega:n.length<=i),sumL]
    (refine ay ⟨.inr rfl,lk 46 (dH rfl) ?_ rfl⟩;simp(disch:=omega) only[kc,bE,Tryz.results154,aP,gH,fu,aJ,bH,eB,d8,ca])
    simp only[hfin]
    rw[List.take_of_length_le (by simp)]
def diffL:List Nat->List Nat->Nat->List Nat
 |[],_,_=>[]
 |a::m,[],w=>(a+8589934592-w)%4294967296::diffL m [] (if a<w then 1 else 0)
 |a::m,b::n,w=>(a+8589934592-(w+b))%4294967296::diffL m n (if a<w+b then 1 else 0)
theorem iw: ∀(m n:List Nat) (w:Nat),Lmb m->Lmb n->w<=1->n.length<=m.length->natV n+w<=natV m->natV (diffL m n w)+(natV n+w)=natV m
 |[],[],w,_,_,_,_,h=>by simp[diffL,natV]at*;omega
 |[],b::n,w,_,_,_,h,_=>by simp at h
 |a::m,[],w,hm,hn,hw,hl,h=>by
  rw[ez]at hm
  simp only[natV]at h
  have:=iw m [] (if a<w then 1 else 0) hm.2 hn (by split<;>omega) (by simp) (by simp only[natV];split<;>omega)
  simp only[diffL,natV]at this⊢
  split at this<;>rename_i hlt<;>simp only[hlt,if_true,if_false]<;>omega
 |a::m,b::n,w,hm,hn,hw,hl,h=>by
  rw[ez]at hm hn
  simp only[natV]at h
  have:=iw m n (if a<w+b then 1 else 0) hm.2 hn.2 (by split<;>omega) (by simpa using hl) (by split<;>omega)
  simp only[diffL,natV]at this⊢
  split at this<;>rename_i hlt<;>simp only[hlt,if_true,if_false]<;>omega
theorem jf: ∀(m n:List Nat) (w:Nat),Lmb (diffL m n w)
 |[],n,w=>by simp[diffL,Lmb]
 |a::m,[],w=>by rw[diffL,ez];exact⟨Nat.mod_lt _ (by omega),jf m [] _⟩
 |a::m,b::n,w=>by rw[diffL,ez];exact⟨Nat.mod_lt _ (by omega),jf m n _⟩
theorem jd: ∀(m n:List Nat) (w:Nat),(diffL m n w).length=m.length
 |[],n,w=>by simp[diffL]
 |a::m,[],w=>by simp[diffL,jd m []]
 |a::m,b::n,w=>by simp[diffL,jd m n]
structure JW (m n:List Nat) where
 i:Nat
 o:List Nat
 c:Nat
 hi:i<=m.length
 hc:c<=1
 ho:o.length=i
 h:o++diffL (m.drop i) (n.drop i) c=diffL m n 0
theorem kV (m n:List Nat) (lm:Lmb m) (ln:Lmb n) (bm:m.length<=1073741824) (bn:n.length<=1073741824):
  CallC Tryz.prog 155 [ca m,ca n] ⟨[],ca (diffL m n 0)⟩:=by
 refine ax Tryz.func155 rfl (by kernel_rfl) ?_;rw[Tryz.ntmps155]
 (refine aa [] fun K hK=>?_;simp(disch:=omega) only[kc,ab,ca,Nat.reduceAdd,List.replicate,ac,Value.oneCell'];apply hK)
 (refine aa [] fun K hK=>?_;simp(disch:=omega) only[kc,ab,ac,Value.oneCell'];apply hK)
 (refine aa [] fun K hK=>?_;simp(disch:=omega) only[kc,ab,ac,Value.oneCell'];apply hK)
 (refine ae (aa [] fun K hK=>?_);simp(disch:=omega) only[kc,ab,ac,Value.oneCell'];apply hK)
 refine bD (G:=JW m n) (fun g=>⟨[ca m,ca n,jk,jk,.raw (.slice none 0 0),.one (.sl 37 0 0 g.o.length),.raw (.int .u64 (g.c:Int)),.raw (.int .i64 (g.i:Int)),jk,jk,jk,jk,jk,jk,jk,jk,jk,jk,jk,jk,jk,jk,jk,jk,jk,jk,jk,jk,jk,jk,jk,jk,jk,jk,jk,jk,jk,jk,jk,jk,jk,jk,jk,jk,jk,jk],Hm [(37,[⟨118,1,lc fU g.o⟩])]⟩) (fun g=>m.length-g.i) ⟨0,[],0,by omega,by omega,rfl,rfl⟩ ?_ ?_
 ·refine(fG (k:=5) (d:=37) 118 1 (by omega) rfl rfl).trans (aj ⟨rfl,trivial⟩ ?_)
  simp[b9,bo,bj]
 ·rintro⟨i,o,c,hi,hc,ho,h⟩
  simp only
  by_cases hm:i<m.length
  ·obtain⟨a,ha⟩:=getElem?_of_lt hm
   have ha':=dp lm ha
   (refine ae (aa [] fun K hK=>?_);simp(disch:=omega) only[kc,ab,Nat.reduceAdd,ca,Hm,aw,au,an,aR,ak,ah,bA];apply hK)
   refine af rfl (fun _=>aq ?_) (fun h=>by simp at h<;>omega)
   refine ae (aI ?_)
   (refine aa [] fun K hK=>?_;simp(disch:=omega) only[kc,ab];apply hK)
   (refine ae (aa [] fun K hK=>?_);simp(disch:=omega) only[kc,ab,Nat.reduceAdd,aw,au,an,aR,ak,ah];apply hK)
   by_cases hn:i<n.length
   ·obtain⟨b,hb⟩:=getElem?_of_lt hn
    have hb':=dp ln hb
    refine af rfl (fun _=>?_) (fun h=>by simp at h<;>omega)
    ((refine aU [] [] (by simp) fun K hK=>?_);simp(disch:=omega) only[kc,ab,Nat.reduceAdd,bA,ag,au,ao,an,bG,hb,fU,bs,aA,bN,bF,ak,Tryz.underlying118,cn,dS,ah];apply hK)
    show bT _ _ _ _
    have e1:IntKind.u32.wrap (IntKind.u64.wrap ((a:Int)-((c:Int)+(b:Int))))=(((a+8589934592-(c+b))%4294967296:Nat):Int):=by rw[IntKind.wrap_u32,IntKind.wrap_u64];omega
    (refine aa [] fun K hK=>?_;simp(disch:=omega) only[kc,ab,Nat.reduceAdd,ag,au,ao,an,bG,ha,fU,bs,aA,bN,bF,ak,Tryz.underlying118,cn,dS,ah,Tryz.underlying88,cJ,e1,b8,aN,aC,dn,fW,cellsOf,isPure,Nat.reduceMul,Nat.reduceLeDiff,List.contains_nil,ka,bH,cW,iX,bJ,newsOf,eA,eI,eJ,ef,eZ,and_true,d7,em,iI,df,aS,aT];apply hK)
    (refine aa [] fun K hK=>?_;simp(disch:=omega) only[kc,ab,ac,Value.oneCell'];apply hK)
    (refine aa [] fun K hK=>?_;simp(disch:=omega) only[kc,ab,Nat.reduceAdd,ag,au,ao,an,bG,ha,fU,bs,aA,bN,bF,ak,Tryz.underlying118,cn,dS,ah];apply hK)
    by_cases hlt:a<c+b
    ·refine af rfl (fun _=>?_) (fun h=>by simp at h<;>omega)
     ((refine aU [] [] (by simp) fun K hK=>?_);simp(disch:=omega) only[kc,ab,bA,ac,Value.oneCell'];apply hK)
     show bT _ _ _ _
     ((refine aU [] [] (by simp) fun K hK=>?_);simp(disch:=omega) only[kc,ab,Nat.reduceAdd,ak,ac,Value.oneCell',ah,bC];apply hK)
     refine⟨⟨i+1,o++[(a+8589934592-(c+b))%4294967296],1,by omega,by omega,by simp[ho],?_⟩,by simp only;omega,aj ⟨rfl,trivial⟩ ?_⟩
     ·rw[<- h,eX ha,eX hb,diffL,List.append_assoc,if_pos hlt];rfl
     ·simp[b9,bo,bj]
    ·refine af rfl (fun h=>by simp at h<;>omega) (fun _=>aq ?_)
     show bT _ _ _ _
     ((refine aU [] [] (by simp) fun K hK=>?_);simp(disch:=omega) only[kc,ab,Nat.reduceAdd,dS,bf,ak,ac,Value.oneCell',ah,bC];apply hK)
     refine⟨⟨i+1,o++[(a+8589934592-(c+b))%4294967296],0,by omega,by omega,by simp[ho],?_⟩,by simp only;omega,aj ⟨rfl,trivial⟩ ?_⟩
     ·rw[<- h,eX ha,eX hb,diffL,List.append_assoc,if_neg hlt];rfl
     ·simp[b9,bo,bj]
   ·refine af rfl (fun h=>by simp at h<;>omega) (fun _=>aq ?_)
    show bT _ _ _ _
    have e1:IntKind.u32.wrap (IntKind.u64.wrap ((a:Int)-(c:Int)))=(((a+8589934592-c)%4294967296:Nat):Int):=by rw[IntKind.wrap_u32,IntKind.wrap_u64];omega
    (refine aa [] fun K hK=>?_;simp(disch:=omega) only[kc,ab,Nat.reduceAdd,bf,ag,au,ao,an,bG,ha,fU,bs,aA,bN,bF,ak,Tryz.underlying118,cn,dS,ah,Tryz.underlying88,cJ,e1,b8,aN,aC,dn,fW,cellsOf,isPure,Nat.reduceMul,Nat.reduceLeDiff,List.contains_nil,ka,bH,cW,iX,bJ,newsOf,eA,eI,eJ,ef,eZ,and_true,d7,em,iI,df,aS,aT];apply hK)
    (refine aa [] fun K hK=>?_;simp(disch:=omega) only[kc,ab,ac,Value.oneCell'];apply hK)
    (refine aa [] fun K hK=>?_;simp(disch:=omega) only[kc,ab,Nat.reduceAdd,ag,au,ao,an,bG,ha,fU,bs,aA,bN,bF,ak,Tryz.underlying118,cn,dS,ah];apply hK)
    by_cases hlt:a<c
    ·refine af rfl (fun _=>?_) (fun h=>by simp at h<;>omega)
     ((refine aU [] [] (by simp) fun K hK=>?_);simp(disch:=omega) only[kc,ab,bA,ac,Value.oneCell'];apply hK)
     show bT _ _ _ _
     ((refine aU [] [] (by simp) fun K hK=>?_);simp(disch:=omega) only[kc,ab,Nat.reduceAdd,ak,ac,Value.oneCell',ah,bC];apply hK)
     refine⟨⟨i+1,o++[(a+8589934592-c)%4294967296],1,by omega,by omega,by simp[ho],?_⟩,by simp only;omega,aj ⟨rfl,trivial⟩ ?_⟩
     ·rw[<- h,eX ha,eu (by omega:n.length<=i),eu (by omega:n.length<=i+1),diffL,List.append_assoc,if_pos hlt];rfl
     ·simp[b9,bo,bj]
    ·refine af rfl (fun h=>by simp at h<;>omega) (fun _=>aq ?_)
     show bT _ _ _ _
     ((refine aU [] [] (by simp) fun K hK=>?_);simp(disch:=omega) only[kc,ab,Nat.reduceAdd,dS,bf,ak,ac,Value.oneCell',ah,bC];apply hK)
     refine⟨⟨i+1,o++[(a+8589934592-c)%4294967296],0,by omega,by omega,by simp[ho],?_⟩,by simp only;omega,aj ⟨rfl,trivial⟩ ?_⟩
     ·rw[<- h,eX ha,eu (by omega:n.length<=i),eu (by omega:n.length<=i+1),diffL,List.append_assoc,if_neg hlt];rfl
     ·simp[b9,bo,bj]
  ·(refine ae (aa [] fun K hK=>?_);simp(disch:=omega) only[kc,ab,Nat.reduceAdd,ca,Hm,aw,au,an,aR,ak,ah,bf];apply hK)
   refine af rfl (fun h=>by simp at h<;>omega) (fun _=>bv ?_)
   show bT _ _ _ _
   (refine aa [] fun K hK=>?_;simp(disch:=omega) only[kc,ab];apply hK)
   have hfin:diffL m n 0=o:=by rw[<- h,eu (by omega:m.length<=i),diffL];simp
   (refine ay ⟨.inr rfl,lk 37 (dH rfl) ?_ rfl⟩;simp(disch:=omega) only[kc,bE,Tryz.results155,aP,gH,fu,bH,eB,d8,ca])
   simp only[hfin]
   rw[List.take_of_length_le (by simp)]
abbrev Bh (z:Int):Prop:=Sz z 536870912
theorem Bh.bg {z:Int} (h:Bh z):Bg z:=h.mono (by omega)
theorem Bh.len {z:Int} (h:Bh z):(be z.natAbs).length<=536870912:=je h
theorem Sz.neg {z:Int} {k:Nat} (h:Sz z k):Sz (-z) k:=by unfold Sz;rw[Int.natAbs_neg];exact h
theorem Bh.neg {z:Int} (h:Bh z):Bh (-z):=Sz.neg h
theorem DM {a b:Int} (h:decide (a<0)=decide (b<0)):gE (decide (a<0)) (a.natAbs+b.natAbs)=a+b:=by
 unfold gE
 by_cases ha:a<0<;>by_cases hb:b<0<;>simp[ha,hb]at h⊢ <;>omega
theorem xc {a b:Int} (h:decide (a<0)≠decide (b<0)) (hle:b.natAbs<=a.natAbs) {d:Nat} (hd:d+(b.natAbs+0)=a.natAbs):gE (decide (a<0)) d=a+b:=by
 unfold gE
 by_cases ha:a<0<;>by_cases hb:b<0<;>simp[ha,hb]at h⊢ <;>omega
theorem iK {l m:List Nat} (hl:Lmb l) (cm:nj m) (h:natV m<=natV l):m.length<=l.length:=by
 by_cases hc:m.length<=l.length
 ·exact hc
 ·have:=iL hl cm (by omega)
  omega
theorem tU (a b:Int) (ha:Bh a) (hb:Bh b):CallC Tryz.prog 133 [tZ a,tZ b] ⟨[],tZ (a+b)⟩:=by
 have la:=ha.len
 have lb:=hb.len
 have t1:=iS (be a.natAbs) ha.bg.len
 have t2:=iS (be b.natAbs) hb.bg.len
 rw[gP]at t1 t2
 by_cases hs:decide (a<0)=decide (b<0)
 ·have h3:=Km (be a.natAbs) (be b.natAbs) (bz _) (bz _) (by omega) (by omega)
  have h4:=ju (decide (a<0)) (sumL (be a.natAbs) (be b.natAbs) 0) (l7 _ _ _ (bz _) (bz _) (by omega)) (by rw[mn];omega)
  rw[kq,aY,aY,Nat.add_zero,DM hs]at h4
  have hs':(decide (a<0)==decide (b<0))=true:=by simp[hs]
  refine ax Tryz.func133 rfl (by kernel_rfl) ?_;rw[Tryz.ntmps133]
  (refine aa [] fun K hK=>?_;simp(disch:=omega) only[kc,ab,Nat.reduceAdd,tZ,List.replicate,cf,aN,aC,cellsOf,isPure,bH,aJ,Nat.reduceEqDiff,bu,bi,Value.oneCell',cP];apply hK)
  (refine bS bY [⟨2,_,_,_,t1⟩,⟨5,_,_,_,t2⟩] [] (by kernel_rfl) (by simp) fun K hK=>?_;simp(disch:=omega) only[kc,ca,ar.a,ab,Nat.reduceAdd,aK,au,bU,cH,aJ,Nat.reduceEqDiff,cP,aA,cj,ai,aN,aC,List.find?_cons,aD,aX,CallRes.plain,aF,aH,ap,noRefTV,am,aG,aE,Nat.reduceBEq];apply hK)
  (refine ae (aa [] fun K hK=>?_);simp(disch:=omega) only[kc,ab,Nat.reduceAdd,aK,au,bP,db,Nat.add_zero,aJ,Nat.reduceEqDiff,cP,aA,cE,ak,ah,eR,hs'];apply hK)
  refine af rfl (fun _=>?_) (fun h=>by simp at h)
  (refine bS bY [⟨4,_,_,_,h3⟩,⟨5,_,_,_,h4⟩] [] (by kernel_rfl) (by simp) fun K hK=>?_;simp(disch:=omega) only[kc,ca,tZ,ar.a,ab,Nat.reduceAdd,aK,au,bP,db,Nat.add_zero,aJ,Nat.reduceEqDiff,cP,aA,cE,ai,aN,aC,List.find?_cons,aD,aX,CallRes.plain,aF,aH,ap,noRefTV,am,aG,aE,Nat.reduceBEq,az,df,bJ,aM,cellsOf,Nat.le_refl,isPure,bH,putCells,aS,aT];apply hK)
  (refine ay ⟨.inr rfl,aO rfl ?_ rfl⟩;simp(disch:=omega) only[kc,bE,Tryz.results133,aP,aJ,Nat.reduceEqDiff,cP,aA,aM,aW,Nat.reduceAdd,Nat.le_refl,tZ])
 ·have hs':(decide (a<0)==decide (b<0))=false:=by simpa using hs
  have h3:=AK (be a.natAbs) (be b.natAbs) (bz _) (bz _) (dr _) (dr _) (by omega) (by omega)
  rw[aY,aY]at h3
  by_cases hle:b.natAbs<=a.natAbs
  ·have hge:0<=gQ a.natAbs b.natAbs:=by unfold gQ;split<;>(try split)<;>omega
   have h4:=kV (be a.natAbs) (be b.natAbs) (bz _) (bz _) (by omega) (by omega)
   have h5:=ju (decide (a<0)) (diffL (be a.natAbs) (be b.natAbs) 0) (jf _ _ _) (by rw[jd];omega)
   have hd:=iw (be a.natAbs) (be b.natAbs) 0 (bz _) (bz _) (by omega) (iK (bz _) (dr _) (by rw[aY,aY];exact hle)) (by rw[aY,aY];exact hle)
   rw[aY,aY]at hd
   rw[xc hs hle hd]at h5
   refine ax Tryz.func133 rfl (by kernel_rfl) ?_;rw[Tryz.ntmps133]
   (refine aa [] fun K hK=>?_;simp(disch:=omega) only[kc,ab,Nat.reduceAdd,tZ,List.replicate,cf,aN,aC,cellsOf,isPure,bH,aJ,Nat.reduceEqDiff,bu,bi,Value.oneCell',cP];apply hK)
   (refine bS bY [⟨2,_,_,_,t1⟩,⟨5,_,_,_,t2⟩] [] (by kernel_rfl) (by simp) fun K hK=>?_;simp(disch:=omega) only[kc,ca,ar.a,ab,Nat.reduceAdd,aK,au,bU,cH,aJ,Nat.reduceEqDiff,cP,aA,cj,ai,aN,aC,List.find?_cons,aD,aX,CallRes.plain,aF,aH,ap,noRefTV,am,aG,aE,Nat.reduceBEq];apply hK)
   (refine ae (aa [] fun K hK=>?_);simp(disch:=omega) only[kc,ab,Nat.reduceAdd,aK,au,bP,db,Nat.add_zero,aJ,Nat.reduceEqDiff,cP,aA,cE,ak,ah,eR,hs'];apply hK)
   refine af rfl (fun h=>by simp at h) (fun _=>aq ?_)
   show bT _ _ _ _
   (refine ae (aa [⟨2,_,_,_,h3⟩] fun K hK=>?_);simp(disch:=omega) only[kc,ca,ar.a,ab,Nat.reduceAdd,ai,aN,aC,List.find?_cons,aD,aX,CallRes.plain,aF,aH,ap,noRefTV,am,aG,aE,ak,ac,Value.oneCell',ah,bA];apply hK)
   refine af rfl (fun _=>?_) (fun h=>by simp at h<;>omega)
   (refine bS bY [⟨4,_,_,_,h4⟩,⟨5,_,_,_,h5⟩] [] (by kernel_rfl) (by simp) fun K hK=>?_;simp(disch:=omega) only[kc,ca,tZ,ar.a,ab,Nat.reduceAdd,aK,au,bP,db,Nat.add_zero,aJ,Nat.reduceEqDiff,cP,aA,cE,ai,aN,aC,List.find?_cons,aD,aX,CallRes.plain,aF,aH,ap,noRefTV,am,aG,aE,Nat.reduceBEq,az,df,bJ,aM,cellsOf,Nat.le_refl,isPure,bH,putCells,aS,aT];apply hK)
   (refine ay ⟨.inr rfl,aO rfl ?_ rfl⟩;simp(disch:=omega) only[kc,bE,Tryz.results133,aP,aJ,Nat.reduceEqDiff,cP,aA,aM,aW,Nat.reduceAdd,Nat.le_refl,tZ])
  ·have hge:gQ a.natAbs b.natAbs<0:=by unfold gQ;split<;>(try split)<;>omega
   have h4:=kV (be b.natAbs) (be a.natAbs) (bz _) (bz _) (by omega) (by omega)
   have h5:=ju (decide (b<0)) (diffL (be b.natAbs) (be a.natAbs) 0) (jf _ _ _) (by rw[jd];omega)
   have hd:=iw (be b.natAbs) (be a.natAbs) 0 (bz _) (bz _) (by omega) (iK (bz _) (dr _) (by rw[aY,aY];omega)) (by rw[aY,aY];omega)
   rw[aY,aY]at hd
   rw[xc (fun h=>hs h.symm) (by omega) hd,Int.add_comm]at h5
   refine ax Tryz.func133 rfl (by kernel_rfl) ?_;rw[Tryz.ntmps133]
   (refine aa [] fun K hK=>?_;simp(disch:=omega) only[kc,ab,Nat.reduceAdd,tZ,List.replicate,cf,aN,aC,cellsOf,isPure,bH,aJ,Nat.reduceEqDiff,bu,bi,Value.oneCell',cP];apply hK)
   (refine bS bY [⟨2,_,_,_,t1⟩,⟨5,_,_,_,t2⟩] [] (by kernel_rfl) (by simp) fun K hK=>?_;simp(disch:=omega) only[kc,ca,ar.a,ab,Nat.reduceAdd,aK,au,bU,cH,aJ,Nat.reduceEqDiff,cP,aA,cj,ai,aN,aC,List.find?_cons,aD,aX,CallRes.plain,aF,aH,ap,noRefTV,am,aG,aE,Nat.reduceBEq];apply hK)
   (refine ae (aa [] fun K hK=>?_);simp(disch:=omega) only[kc,ab,Nat.reduceAdd,aK,au,bP,db,Nat.add_zero,aJ,Nat.reduceEqDiff,cP,aA,cE,ak,ah,eR,hs'];apply hK)
   refine af rfl (fun h=>by simp at h) (fun _=>aq ?_)
   show bT _ _ _ _
   (refine ae (aa [⟨2,_,_,_,h3⟩] fun K hK=>?_);simp(disch:=omega) only[kc,ca,ar.a,ab,Nat.reduceAdd,ai,aN,aC,List.find?_cons,aD,aX,CallRes.plain,aF,aH,ap,noRefTV,am,aG,aE,ak,ac,Value.oneCell',ah,bf];apply hK)
   refine af rfl (fun h=>by simp at h<;>omega) (fun _=>aq ?_)
   show bT _ _ _ _
   (refine bS bY [⟨4,_,_,_,h4⟩,⟨5,_,_,_,h5⟩] [] (by kernel_rfl) (by simp) fun K hK=>?_;simp(disch:=omega) only[kc,ca,tZ,ar.a,ab,Nat.reduceAdd,aK,au,bP,db,Nat.add_zero,aJ,Nat.reduceEqDiff,cP,aA,cE,ai,aN,aC,List.find?_cons,aD,aX,CallRes.plain,aF,aH,ap,noRefTV,am,aG,aE,Nat.reduceBEq,az,df,bJ,aM,cellsOf,Nat.le_refl,isPure,bH,putCells,aS,aT];apply hK)
   (refine ay ⟨.inr rfl,aO rfl ?_ rfl⟩;simp(disch:=omega) only[kc,bE,Tryz.results133,aP,aJ,Nat.reduceEqDiff,cP,aA,aM,aW,Nat.reduceAdd,Nat.le_refl,tZ])
theorem Iw (a b:Int) (ha:Bh a) (hb:Bh b):CallC Tryz.prog 125 [tZ a,tZ b] ⟨[],tZ (a-b)⟩:=by
 have h1:=ER b hb.bg
 have h2:=tU a (-b) ha hb.neg
 rw[<- Int.sub_eq_add_neg]at h2
 refine ax Tryz.func125 rfl (by kernel_rfl) ?_;rw[Tryz.ntmps125]
 (refine aa [] fun K hK=>?_;simp(disch:=omega) only[kc,ab,Nat.reduceAdd,tZ,List.replicate,cf,aN,aC,cellsOf,isPure,bH,aJ,Nat.reduceEqDiff,bu,bi,Value.oneCell',cP];apply hK)
 (refine bS bY [⟨2,_,_,_,h1⟩,⟨3,_,_,_,h2⟩] [] (by kernel_rfl) (by simp) fun K hK=>?_;simp(disch:=omega) only[kc,tZ,ar.a,ab,Nat.reduceAdd,au,aJ,Nat.reduceEqDiff,cP,aA,aM,aW,Nat.le_refl,ai,aN,aC,List.find?_cons,aD,aX,CallRes.plain,aF,aH,ap,isPure,noRefTV,am,aG,aE,Nat.reduceBEq,az,df,bJ,cellsOf,bH,putCells,aS,aT];apply hK)
 (refine ay ⟨.inr rfl,aO rfl ?_ rfl⟩;simp(disch:=omega) only[kc,bE,Tryz.results125,aP,aJ,Nat.reduceEqDiff,cP,aA,aM,aW,Nat.reduceAdd,Nat.le_refl,tZ])
theorem oT: ∀(l:List Nat) (k v o:Nat),l[k]?=some o->natV (l.set k v)+o*4294967296^k=natV l+v*4294967296^k
 |[],k,v,o,h=>by simp at h
 |a::l,0,v,o,h=>by simp at h;subst h;simp[natV];omega
 |a::l,k+1,v,o,h=>by
  simp at h
  have:=oT l k v o h
  simp only[List.set_cons_succ,natV,Nat.pow_succ]
  have e1:o*(4294967296^k*4294967296)=4294967296*(o*4294967296^k):=by rw[<- Nat.mul_assoc,Nat.mul_comm]
  have e2:v*(4294967296^k*4294967296)=4294967296*(v*4294967296^k):=by rw[<- Nat.mul_assoc,Nat.mul_comm]
  rw[e1,e2]
  omega
theorem vT {l:List Nat} (h:Lmb l) {k v:Nat} (hv:v<4294967296):Lmb (l.set k v):=fun a ha=>by
 rcases List.mem_or_eq_of_mem_set ha with ha|rfl
 ·exact h a ha
 ·exact hv
theorem sp (n:Nat):natV (List.replicate n 0)=0:=by induction n with
 |zero=>rfl
 |succ n ih=>simp[List.replicate_succ,natV,ih]
theorem co {l:List Nat} {i a:Nat} (h:l[i]?=some a):natV (l.take (i+1))=natV (l.take i)+a*4294967296^i:=by
 obtain⟨h1,rfl⟩:=List.getElem?_eq_some_iff.1 h
 rw[List.take_succ_eq_append_getElem h1,iJ,List.length_take,Nat.min_eq_left (by omega)]
 simp[natV,Nat.mul_comm]
theorem kZ (n:Nat):List.replicate n [AV.p (.raw (.int .u32 0))]=lc fU (List.replicate n 0):=by simp[lc,fU]
theorem eh (l:List Nat) (k v:Nat):(lc fU l).set k [AV.p (.raw (.int .u32 (v:Int)))]=lc fU (l.set k v):=by simp[lc,fU,List.map_set]
structure BO (A B:List Nat) where
 i:Nat
 O:List Nat
 hi:i<=A.length
 len:O.length=A.length+B.length
 lmb:Lmb O
 val:natV O=natV (A.take i)*natV B
 zero: ∀k,i+B.length<=k->k<A.length+B.length->O[k]?=some 0
structure Dw (A B:List Nat) (i a:Nat) where
 j:Nat
 O:List Nat
 c:Nat
 hj:j<=B.length
 len:O.length=A.length+B.length
 lmb:Lmb O
 hc:c<4294967296
 val:natV O+c*4294967296^(i+j)=natV (A.take i)*natV B+a*natV (B.take j)*4294967296^i
 zero: ∀k,i+B.length<=k->k<A.length+B.length->O[k]?=some 0
theorem mO {a b:Nat} (ha:a<4294967296) (hb:b<4294967296):a*b<=18446744065119617025:=by
 have:a*b<=4294967295*4294967295:=Nat.mul_le_mul (by omega) (by omega)
 omega
theorem uE {A B:List Nat} {i a:Nat} (g:Dw A B i a) {y o:Nat} (hy:B[g.j]?=some y) (ho:g.O[i+g.j]?=some o) (hi:i<A.length) (ha:a<4294967296) (hy':y<4294967296):
  ∃g':Dw A B i a,g'.j=g.j+1/\g'.O=g.O.set (i+g.j) ((g.c+(a*y+o))%4294967296)/\g'.c=(g.c+(a*y+o))/4294967296:=by
 have hjl:g.j<B.length:=(List.getElem?_eq_some_iff.1 hy).1
 have ho':=dp g.lmb ho
 have hb:=mO ha hy'
 have hc:=g.hc
 refine⟨⟨g.j+1,g.O.set (i+g.j) ((g.c+(a*y+o))%4294967296),(g.c+(a*y+o))/4294967296,hjl,by simp[g.len],vT g.lmb (Nat.mod_lt _ (by omega)),?_,?_,fun k h1 h2=>?_⟩,rfl,rfl,rfl⟩
 ·generalize a*y=p at*
  omega
 ·have h1:=oT g.O (i+g.j) ((g.c+(a*y+o))%4294967296) o ho
  have h2:=co hy
  have h3:=g.val
  rw[h2,show i+(g.j+1)=i+g.j+1 by omega,Nat.pow_succ,Nat.mul_add a,Nat.add_mul]
  have e1:a*(y*4294967296^g.j)*4294967296^i=a*y*4294967296^(i+g.j):=by
   rw[<- Nat.mul_assoc,Nat.mul_assoc,<- Nat.pow_add,Nat.add_comm g.j i]
  rw[e1]
  generalize 4294967296^(i+g.j)=X at*
  generalize a*y=p at*
  have e2:(g.c+(p+o))=(g.c+(p+o))%4294967296+4294967296*((g.c+(p+o))/4294967296):=(Nat.mod_add_div _ _).symm
  generalize hr:(g.c+(p+o))%4294967296=r at*
  generalize hq:(g.c+(p+o))/4294967296=q at*
  generalize natV (g.O.set (i+g.j) r)=N at*
  generalize natV g.O=M at*
  generalize natV (A.take i)*natV B=U at*
  generalize a*natV (B.take g.j)*4294967296^i=V at*
  -- N + o X = M + r X, M + c X = U + V, c + p + o = r + B q
  have e3:g.c*X+(p*X+o*X)=r*X+q*(X*4294967296):=by
   have:=congrArg (· *X) e2
   simp only[Nat.add_mul]at this
   rw[this]
   congr 1
   rw[Nat.mul_comm 4294967296 q,Nat.mul_assoc,Nat.mul_comm 4294967296 X]
  omega
 ·rw[List.getElem?_set_ne (by omega)]
  exact g.zero k h1 h2
theorem uD {A B:List Nat} {i a:Nat} (hA:A[i]?=some a) (g:Dw A B i a) (hj: ¬g.j<B.length): ∃g':BO A B,g'.i=i+1/\g'.O=g.O.set (i+B.length) g.c:=by
 have hi:=(List.getElem?_eq_some_iff.1 hA).1
 have hjl:=g.hj
 have e:g.j=B.length:=by omega
 have hz:=g.zero (i+B.length) (Nat.le_refl _) (by omega)
 refine⟨⟨i+1,g.O.set (i+B.length) g.c,hi,by simp[g.len],vT g.lmb g.hc,?_,fun k h1 h2=>?_⟩,rfl,rfl⟩
 ·have h1:=oT g.O (i+B.length) g.c 0 hz
  have h2:=g.val
  rw[e,List.take_length]at h2
  rw[co hA,Nat.add_mul]
  have e1:a*4294967296^i*natV B=a*natV B*4294967296^i:=by rw[Nat.mul_assoc,Nat.mul_comm (4294967296^i),<- Nat.mul_assoc]
  rw[e1]
  omega
 ·rw[List.getElem?_set_ne (by omega)]
  exact g.zero k (by omega) h2
theorem Bi (a b:Int):gE (!(decide (a<0)==decide (b<0))) (a.natAbs*b.natAbs)=a*b:=by
 have h:=Int.natAbs_mul a b
 unfold gE
 rcases Int.lt_or_le a 0 with ha|ha<;>rcases Int.lt_or_le b 0 with hb|hb
 ·have:0<a*b:=Int.mul_pos_of_neg_of_neg ha hb
  simp[ha,hb];omega
 ·have:a*b<=0:=Int.mul_nonpos_of_nonpos_of_nonneg (by omega) hb
  have hb': ¬b<0:=by omega
  simp[ha,hb'];omega
 ·have:a*b<=0:=Int.mul_nonpos_of_nonneg_of_nonpos ha (by omega)
  have ha': ¬a<0:=by omega
  simp[ha',hb];omega
 ·have:0<=a*b:=Int.mul_nonneg ha hb
  have ha': ¬a<0:=by omega
  have hb': ¬b<0:=by omega
  simp[ha',hb'];omega
abbrev wQ (neg:Bool) (A:List Nat):List OObj:=[⟨53,2,[[.p (.raw (.bool neg)),.p (.sl (ls fU A))]]⟩]
abbrev qp:List OObj:=[⟨53,2,[[.raw (.bool false),.raw (.slice none 0 0)]]⟩]
theorem lG (a b:Int) (ha:Bh a) (hb:Bh b):CallC Tryz.prog 126 [tZ a,tZ b] ⟨[],tZ (a*b)⟩:=by
 have la:=ha.len
 have lb:=hb.len
 have hlA:=bz a.natAbs
 have hlB:=bz b.natAbs
 have vA:=aY a.natAbs
 have vB:=aY b.natAbs
 refine ax Tryz.func126 rfl (by kernel_rfl) ?_;rw[Tryz.ntmps126]
 (refine aa [] fun K hK=>?_;simp(disch:=omega) only[kc,ab,Nat.reduceAdd,tZ,List.replicate,cf,aN,aC,cellsOf,isPure,bH,aJ,Nat.reduceEqDiff,bu,bi,Value.oneCell',cP];apply hK)
 generalize be a.natAbs=A at*
 generalize be b.natAbs=B at*
 have e0:((A.length:Int)+(B.length:Int)).toNat=A.length+B.length:=by omega
 (refine aa [] fun K hK=>?_;simp(disch:=omega) only[kc,ab,Nat.reduceAdd,aK,au,bU,cH,aJ,Nat.reduceEqDiff,cP,aA,cj,aw,an,aR,ak,ah,bC,bZ,aN,aC,dn,bs,eA,Value.oneCell',and_true,e0,kZ,bH];apply hK)
 (refine ae (aa [] fun K hK=>?_);simp(disch:=omega) only[kc,ab,Nat.reduceAdd,aK,au,bU,cH,aJ,Nat.reduceEqDiff,cP,aA,cj,aw,an,aR,ac,Value.oneCell'];apply hK)
 refine bD (G:=BO A B) (fun g=>⟨[jk,jk,.one (.ptr 2 0 0 0),.one (.ptr 3 0 0 0),.one (.ptr 4 0 0 0),.one (.sl 18 0 0 (A.length+B.length)),jk,jk,jk,jk,jk,jk,jk,jk,jk,jk,jk,jk,jk,jk,ca A,.raw (.int .i64 (A.length:Int)),.raw (.int .i64 (g.i:Int)),jk,jk,jk,jk,jk,jk,jk,jk,jk,jk,jk,jk,jk,jk,jk,jk,jk,jk,jk,jk,jk,jk,jk,jk,jk,jk,jk,jk,jk,jk,jk,jk,jk,jk,jk,jk,jk,jk,jk,jk,jk,jk,jk,jk,jk,jk,jk,jk,jk,jk,jk,jk,jk,jk],Hm [(2,wQ (decide (a<0)) A),(3,wQ (decide (b<0)) B),(4,qp),(18,[⟨118,1,lc fU g.O⟩])]⟩) (fun g=>A.length-g.i) ⟨0,List.replicate (A.length+B.length) 0,by omega,by simp,fun x hx=>by simp at hx;omega,by simp[sp,natV],fun k h1 h2=>by rw[List.getElem?_replicate,if_pos h2]⟩ ?_ ?_
 ·refine aj ⟨rfl,rfl,rfl,rfl,trivial⟩ ?_
  simp[b9,bo,bj]
 ·rintro⟨i,O,hi,len,lmb,val,zero⟩
  simp only
  by_cases hm:i<A.length
  ·obtain⟨x,hx⟩:=getElem?_of_lt hm
   have hx':=dp hlA hx
   (refine aa [] fun K hK=>?_;simp(disch:=omega) only[kc,ab,ca,Hm,ak,ah,bA];apply hK)
   refine ae (af rfl (fun _=>aq ?_) (fun h=>by simp at h<;>omega))
   refine ae (aI ?_)
   (refine aa [] fun K hK=>?_;simp(disch:=omega) only[kc,ab,Nat.reduceAdd,ag,au,ao,an,bG,hx,fU,bs,aA,bN];apply hK)
   (refine aa [] fun K hK=>?_;simp(disch:=omega) only[kc,ab,ac,Value.oneCell'];apply hK)
   (refine ae (aa [] fun K hK=>?_);simp(disch:=omega) only[kc,ab,Nat.reduceAdd,aK,au,bU,cH,Nat.reduceEqDiff,cP,aA,cj,aw,an,aR,ac,Value.oneCell'];apply hK)
   refine bD (G:=Dw A B i x) (fun g=>⟨[jk,jk,.one (.ptr 2 0 0 0),.one (.ptr 3 0 0 0),.one (.ptr 4 0 0 0),.one (.sl 18 0 0 (A.length+B.length)),.raw (.int .i64 (i:Int)),.raw (.int .u32 (x:Int)),.raw (.int .u64 (g.c:Int)),jk,jk,jk,jk,jk,jk,jk,jk,jk,jk,jk,ca A,.raw (.int .i64 (A.length:Int)),.raw (.int .i64 (i:Int)),jk,jk,jk,jk,jk,ca B,.raw (.int .i64 (B.length:Int)),.raw (.int .i64 (g.j:Int)),jk,jk,jk,jk,jk,jk,jk,jk,jk,jk,jk,jk,jk,jk,jk,jk,jk,jk,jk,jk,jk,jk,jk,jk,jk,jk,jk,jk,jk,jk,jk,jk,jk,jk,jk,jk,jk,jk,jk,jk,jk,jk,jk,jk,jk,jk],Hm [(2,wQ (decide (a<0)) A),(3,wQ (decide (b<0)) B),(4,qp),(18,[⟨118,1,lc fU g.O⟩])]⟩) (fun g=>B.length-g.j) ⟨0,O,0,by omega,len,lmb,by omega,by simpa[natV] using val,zero⟩ ?_ ?_
   ·refine aj ⟨rfl,rfl,rfl,rfl,trivial⟩ ?_
    simp[b9,bo,bj]
   ·intro g
    by_cases hn:g.j<B.length
    ·obtain⟨y,hy⟩:=getElem?_of_lt hn
     have hy':=dp hlB hy
     have hlen:=g.len
     obtain⟨o,ho⟩:=getElem?_of_lt (show i+g.j<g.O.length by omega)
     have ho':=dp g.lmb ho
     have hb:=mO hx' hy'
     have hgc:=g.hc
     obtain⟨g',q1,q2,q3⟩:=uE g hy ho hm hx' hy'
     have e1:((i:Int)+(g.j:Int)).toNat=i+g.j:=by omega
     have e2:(x:Int)*(y:Int)=((x*y:Nat):Int):=by simp
     generalize hp:x*y=p at*
     have e3:IntKind.u32.wrap ((g.c:Int)+((p:Int)+(o:Int)))=(((g.c+(p+o))%4294967296:Nat):Int):=by rw[<- rp];congr 1<;>omega
     have e4:Int.fdiv ((g.c:Int)+((p:Int)+(o:Int))) (2^(min 32 IntKind.u64.bits))=(((g.c+(p+o))/4294967296:Nat):Int):=by rw[<- Dc];congr 1<;>omega
     (refine aa [] fun K hK=>?_;simp(disch:=omega) only[kc,ab,ca,Hm,ak,ah,bA];apply hK)
     refine ae (af rfl (fun _=>aq ?_) (fun h=>by simp at h<;>omega))
     refine ae (aI ?_)
     (refine aa [] fun K hK=>?_;simp(disch:=omega) only[kc,ab,Nat.reduceAdd,ag,au,ao,an,bG,hy,fU,bs,aA,bN];apply hK)
     (refine aa [] fun K hK=>?_;simp(disch:=omega) only[kc,ab,Nat.reduceAdd,bF,ak,Tryz.underlying118,cn,dS,ah,e2,bC,ag,au,ao,e1,an,Nat.reduceEqDiff,cP,bs,bH,cb,fU,ho,aA,bN];apply hK)
     (refine aa [] fun K hK=>?_;simp(disch:=omega) only[kc,ab,Nat.reduceAdd,ak,ah,bC,bF,Tryz.underlying88,cJ,e3,ag,au,ao,e1,an,Nat.reduceEqDiff,cP,bs,bH,az,df,bJ,cb,fU,ho,cellsOf,Nat.le_refl,isPure,putCells,eh,aS,aT];apply hK)
     ((refine aU [] [] (by simp) fun K hK=>?_);simp(disch:=omega) only[kc,ab,Nat.reduceAdd,ak,ac,Value.oneCell',ah,Int.reduceLE,Int.reduceToNat,e4];apply hK)
     show bT _ _ _ _
     ((refine aU [] [] (by simp) fun K hK=>?_);simp(disch:=omega) only[kc,ab,ak,ac,Value.oneCell',ah,bC];apply hK)
     refine⟨g',by omega,aj ⟨rfl,rfl,rfl,by rw[q2];rfl,trivial⟩ ?_⟩
     simp[b9,bo,bj,q1,q3]
    ·have hgj:=g.hj
     have hgc:=g.hc
     have hgl:=g.len
     obtain⟨g',q1,q2⟩:=uD hx g hn
     have e1:((i:Int)+(B.length:Int)).toNat=i+B.length:=by omega
     have e3:IntKind.u32.wrap (g.c:Int)=(g.c:Int):=by rw[rp];omega
     (refine aa [] fun K hK=>?_;simp(disch:=omega) only[kc,ab,ca,Hm,ak,ah,bf];apply hK)
     refine ae (af rfl (fun h=>by simp at h<;>omega) (fun _=>bv ?_))
     show bT _ _ _ _
     have hz:=g.zero (i+B.length) (Nat.le_refl _) (by omega)
     ((refine aU [] [] (by simp) fun K hK=>?_);simp(disch:=omega) only[kc,ab,Nat.reduceAdd,aK,au,bU,cH,Nat.reduceEqDiff,cP,aA,cj,aw,an,aR,ak,ah,bC,bF,Tryz.underlying88,cJ,e3,ag,ao,e1,bs,bH,az,df,bJ,cb,fU,hz,cellsOf,Nat.le_refl,isPure,putCells,eh,aS,aT];apply hK)
     show bT _ _ _ _
     ((refine aU [] [] (by simp) fun K hK=>?_);simp(disch:=omega) only[kc,ab,ak,ac,Value.oneCell',ah,bC];apply hK)
     refine⟨g',by omega,aj ⟨rfl,rfl,rfl,by rw[q2];rfl,trivial⟩ ?_⟩
     simp[b9,bo,bj,q1]
  ·have hfin:natV O=a.natAbs*b.natAbs:=by
    have:i=A.length:=by omega
    rw[val,this,List.take_length,vA,vB]
   have h4:=ju (!(decide (a<0)==decide (b<0))) O lmb (by omega)
   rw[hfin,Bi]at h4
   (refine aa [] fun K hK=>?_;simp(disch:=omega) only[kc,ab,ca,Hm,ak,ah,bf];apply hK)
   refine ae (af rfl (fun h=>by simp at h<;>omega) (fun _=>bv ?_))
   show bT _ _ _ _
   refine bT.weak (cQ 18 (dH rfl)) ?_
   have eT:List.take (A.length+B.length) O=O:=List.take_of_length_le (by omega)
   simp(disch:=omega) only[kc,tZ,gH,fu,Nat.reduceEqDiff,bH,cP,eB,eT,d8]
   (refine aa [⟨6,_,_,_,h4⟩] fun K hK=>?_;simp(disch:=omega) only[kc,ca,tZ,ar.a,ab,Nat.reduceAdd,aK,au,bP,db,Nat.add_zero,aJ,Nat.reduceEqDiff,cP,aA,cE,ak,ah,eR,ai,aN,aC,List.find?_cons,aD,aX,CallRes.plain,aF,aH,ap,noRefTV,am,aG,aE,az,df,bJ,aM,cellsOf,Nat.le_refl,isPure,bH,putCells,aS,aT];apply hK)
   (refine ay ⟨.inr rfl,aO rfl ?_ rfl⟩;simp(disch:=omega) only[kc,bE,Tryz.results126,aP,aJ,Nat.reduceEqDiff,cP,aA,aM,aW,Nat.reduceAdd,Nat.le_refl])
end Go.Proofs.YtpgghglbpcabkaaGreat
