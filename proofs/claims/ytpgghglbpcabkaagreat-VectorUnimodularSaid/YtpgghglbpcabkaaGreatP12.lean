/-
  Part 13 of a proof (walks and plain facts).
-/
import Derived.Test.YtpgghglbpcabkaaGreatP11
set_option linter.all false
set_option maxRecDepth 100000
set_option maxHeartbeats 64000000
namespace Go.Proofs.YtpgghglbpcabkaaGreat
open Go.RowKit
theorem fY (u:Nat) (hu:u<18446744073709551616):CallC Tryz.prog 84 [.raw (.int .u64 u)] ⟨[],bO (aK u)⟩:=by
 have hlm:Lmb [u%4294967296,u/4294967296]:=by intro a ha;simp at ha;omega
 have ht:=dQ [u%4294967296,u/4294967296] (by simp)
 rw[dU hlm,pZ]at ht
 have e1:IntKind.u32.wrap (u:Int)=((u%4294967296:Nat):Int):=by rw[IntKind.wrap_u32];omega
 have e2:IntKind.u32.wrap ((u:Int).fdiv (2^(min (32:Int).toNat IntKind.u64.bits)))=((u/4294967296:Nat):Int):=by
  rw[IntKind.wrap_u32]
  show(Int.fdiv (u:Int) 4294967296)%4294967296=_
  rw[Int.fdiv_eq_ediv_of_nonneg _ (by omega)]
  omega
 simp only[Int.reduceToNat]at e2
 refine aC Tryz.func84 rfl (by kernel_rfl) ?_;rw[Tryz.ntmps84]
 (refine aa [] fun K hK=>?_;simp(disch:=omega) only[kc,ab,List.replicate,ac,Value.oneCell'];apply hK)
 (refine aa [⟨6,_,_,_,ht⟩] fun K hK=>?_;simp(disch:=omega) only[kc,bO,xp,fU,gS,ar.a,ab,Nat.reduceAdd,bf,aj,Tryz.underlying88,bZ,e1,ac,Value.oneCell',ai,Int.reduceLE,Int.reduceToNat,e2,co,aT,aI,ah,cp,aO,fW,cellsOf,isPure,Nat.reduceMul,Nat.reduceLeDiff,List.contains_nil,kW,bL,ak,List.find?_cons,aQ,bo,CallRes.plain,aR,aV,az,noRefTV,ap,aS,aP];apply hK)
 (refine aE ⟨.inr rfl,aJ rfl ?_ rfl⟩;simp(disch:=omega) only[bK,Tryz.results84,aN,List.getElem?_cons_succ,List.getElem?_cons_zero,bO])
theorem k9 (l:List Nat) (lm:Lmb l) (bl:l.length<=2):CallC Tryz.prog 52 [bO l] ⟨[],.raw (.int .u64 (natV l:Nat))⟩:=by
 refine aC Tryz.func52 rfl (by kernel_rfl) ?_;rw[Tryz.ntmps52]
 (refine aa [] fun K hK=>?_;simp(disch:=omega) only[kc,ab,bO,List.replicate,ac,Value.oneCell'];apply hK)
 (refine aa [] fun K hK=>?_;simp(disch:=omega) only[kc,ab,ac,Value.oneCell'];apply hK)
 (refine ae (aa [] fun K hK=>?_);simp(disch:=omega) only[kc,ab,Nat.reduceAdd,aq,ao,ah,aD,ac,Value.oneCell'];apply hK)
 refine bT (G:=EG l) (fun g=>⟨[jk,jk,jk,.raw (.int .u64 (g.u:Int)),jk,jk,bO l,.raw (.int .i64 (l.length:Int)),.raw (.int .i64 (g.i:Int)),jk,jk,jk,jk,jk,jk,jk,jk,jk,jk,jk,jk,jk],Hm []⟩) (fun g=>l.length-g.i) ⟨0,0,⟨by omega,by omega⟩,rfl⟩ ?_ ?_
 ·refine am trivial ?_
  simp[cu,bD,bA]
 ·rintro⟨i,u,hi,hu⟩
  simp only
  have hlt:=d6 lm i
  rw[<- hu]at hlt
  by_cases hm:i<l.length
  ·obtain⟨a,ha⟩:=getElem?_of_lt hm
   have ha':=ct lm ha
   have hu2:=bS ha
   rw[<- hu]at hu2
   (refine aa [] fun K hK=>?_;simp(disch:=omega) only[kc,ab,bO,Hm,aj,ai,bE];apply hK)
   refine ae (af rfl (fun _=>ay ?_) (fun h=>by simp at h<;>omega))
   refine ae (aU ?_)
   (refine aa [] fun K hK=>?_;simp(disch:=omega) only[kc,ab,Nat.reduceAdd,ag,ao,an,ah,bI,ha,fU,aO,ax,bu];apply hK)
   have hi2:i=0\/i=1:=by omega
   rcases hi2 with rfl|rfl
   ·have e1:IntKind.u64.wrap ((a:Int)*2^min (32*((0:Nat):Int)).toNat IntKind.u64.bits)=(a:Int):=by
     rw[IntKind.wrap_u64];show((a:Int)*1)%_=_;omega
    have hu0:u=0:=by simpa[natV] using hu
    have e2:=rJ u a (by omega) (by omega)
    rw[hu0,Nat.zero_or,<- hu0]at e2
    ((refine aX [] [] (by simp) fun K hK=>?_);simp(disch:=omega) only[kc,ab,Nat.reduceAdd,bf,aj,Tryz.underlying118,bP,cS,ac,Value.oneCell',ai,bC,e1,bL,e2];apply hK)
    show bX _ _ _ _
    ((refine aX [] [] (by simp) fun K hK=>?_);simp(disch:=omega) only[kc,ab,aj,ac,Value.oneCell',ai,bC];apply hK)
    refine⟨⟨1,a,⟨by omega,by omega⟩,by rw[hu2,hu0];simp⟩,by simp only;omega,am trivial ?_⟩
    simp[cu,bD,bA]
   ·have e1:IntKind.u64.wrap ((a:Int)*2^min (32*((1:Nat):Int)).toNat IntKind.u64.bits)=((a*4294967296:Nat):Int):=by
     rw[IntKind.wrap_u64];show((a:Int)*4294967296)%_=_;omega
    simp only[Nat.pow_one]at hlt
    have e2:=rJ u (a*4294967296) (by omega) (by omega)
    rw[show a*4294967296=a*2^32 from rfl,nr _ _ _ hlt,show a*2^32=a*4294967296 from rfl]at e2
    ((refine aX [] [] (by simp) fun K hK=>?_);simp(disch:=omega) only[kc,ab,Nat.reduceAdd,bf,aj,Tryz.underlying118,bP,cS,ac,Value.oneCell',ai,bC,e1,bL,e2];apply hK)
    show bX _ _ _ _
    ((refine aX [] [] (by simp) fun K hK=>?_);simp(disch:=omega) only[kc,ab,aj,ac,Value.oneCell',ai,bC];apply hK)
    refine⟨⟨2,a*4294967296+u,⟨by omega,by omega⟩,by rw[hu2];omega⟩,by simp only;omega,am trivial ?_⟩
    simp[cu,bD,bA]
  ·have hfin:u=natV l:=by rw[hu,List.take_of_length_le (by omega)]
   rw[<- hfin]
   (refine aa [] fun K hK=>?_;simp(disch:=omega) only[kc,ab,bO,Hm,aj,ai,bj];apply hK)
   refine ae (af rfl (fun h=>by simp at h<;>omega) (fun _=>bF ?_))
   show bX _ _ _ _
   (refine aa [] fun K hK=>?_;simp(disch:=omega) only[kc,ab];apply hK)
   (refine aE ⟨.inr rfl,aJ rfl ?_ rfl⟩;simp(disch:=omega) only[bK,Tryz.results52,aN,List.getElem?_cons_succ,List.getElem?_cons_zero])
theorem tn (n:Int) (h1: -9223372036854775808<=n) (h2:n<=9223372036854775807):CallC Tryz.prog 48 [.raw (.int .i64 n)] ⟨[],tZ n⟩:=by
 have hf:=fY n.natAbs (by omega)
 by_cases hn:n<0
 ·have ht:=dP true n.natAbs
  have e1:IntKind.u64.wrap (0-IntKind.u64.wrap n)=((n.natAbs:Nat):Int):=by rw[IntKind.wrap_u64,IntKind.wrap_u64];omega
  rw[show eY true n.natAbs=n by unfold eY;simp;omega]at ht
  refine aC Tryz.func48 rfl (by kernel_rfl) ?_;rw[Tryz.ntmps48]
  (refine aa [] fun K hK=>?_;simp(disch:=omega) only[kc,ab,List.replicate,bs,aT,aI,aZ,Value.oneCell',Nat.reduceAdd,bL];apply hK)
  (refine ae (aa [] fun K hK=>?_);simp(disch:=omega) only[kc,ab,aj,ac,Value.oneCell',ai,bE];apply hK)
  refine af rfl (fun _=>?_) (fun h=>by simp at h)
  (refine aa [⟨3,_,_,_,hf⟩,⟨4,_,_,_,ht⟩] fun K hK=>?_;simp(disch:=omega) only[kc,bO,tZ,bE,ar.a,ab,Nat.reduceAdd,bf,aj,Tryz.underlying2,bP,cX,eA,e1,ak,aT,aI,List.find?_cons,aQ,bo,CallRes.plain,aR,aV,az,noRefTV,ap,aS,aP,Nat.reduceBEq,ac,Value.oneCell',aB,dr,bN,aF,au,cellsOf,Nat.le_refl,isPure,bL,putCells,aH,aL];apply hK)
  (refine aE ⟨.inr rfl,aJ rfl ?_ rfl⟩;simp(disch:=omega) only[kc,bK,Tryz.results48,aN,au,cH,ax,aF,aW,Nat.reduceAdd,Nat.le_refl,tZ,bE])
 ·have ht:=dP false n.natAbs
  have e1:IntKind.u64.wrap n=((n.natAbs:Nat):Int):=by rw[IntKind.wrap_u64];omega
  rw[show eY false n.natAbs=n by unfold eY;simp;omega]at ht
  refine aC Tryz.func48 rfl (by kernel_rfl) ?_;rw[Tryz.ntmps48]
  (refine aa [] fun K hK=>?_;simp(disch:=omega) only[kc,ab,List.replicate,bs,aT,aI,aZ,Value.oneCell',Nat.reduceAdd,bL];apply hK)
  (refine ae (aa [] fun K hK=>?_);simp(disch:=omega) only[kc,ab,aj,ac,Value.oneCell',ai,bj];apply hK)
  refine af rfl (fun h=>by simp at h) (fun _=>ay ?_)
  show bX _ _ _ _
  (refine aa [⟨2,_,_,_,hf⟩,⟨3,_,_,_,ht⟩] fun K hK=>?_;simp(disch:=omega) only[kc,bO,tZ,bj,ar.a,ab,Nat.reduceAdd,bf,aj,Tryz.underlying2,bP,e1,ak,aT,aI,List.find?_cons,aQ,bo,CallRes.plain,aR,aV,az,noRefTV,ap,aS,aP,Nat.reduceBEq,ac,Value.oneCell',aB,dr,bN,aF,au,cellsOf,Nat.le_refl,isPure,bL,putCells,aH,aL];apply hK)
  (refine aE ⟨.inr rfl,aJ rfl ?_ rfl⟩;simp(disch:=omega) only[kc,bK,Tryz.results48,aN,au,cH,ax,aF,aW,Nat.reduceAdd,Nat.le_refl,tZ,bj])
theorem Dc (z:Int) (h:Bg z):CallC Tryz.prog 85 [tZ z] ⟨[],.raw (.int .i64 (sg z))⟩:=by
 have ht:=dQ (aK z.natAbs) h.len
 rw[fx]at ht
 have hl:=eF (n:=z.natAbs)
 rcases Int.lt_trichotomy z 0 with hz|hz|hz
 ·have e:sg z= -1:=by simp[sg,hz]
  have hl':(aK z.natAbs).length≠0:=by omega
  rw[e]
  refine aC Tryz.func85 rfl (by kernel_rfl) ?_;rw[Tryz.ntmps85]
  (refine aa [] fun K hK=>?_;simp(disch:=omega) only[kc,ab,tZ,bE,List.replicate,cd,aT,aI,cellsOf,isPure,Nat.reduceAdd,bL,ac,Value.oneCell'];apply hK)
  refine ae (aU ?_)
  (refine aa [⟨2,_,_,_,ht⟩] fun K hK=>?_;simp(disch:=omega) only[kc,bO,ar.a,ab,Nat.reduceAdd,aw,ao,bH,cb,au,ax,bW,ak,aT,aI,List.find?_cons,aQ,bo,CallRes.plain,aR,aV,az,noRefTV,ap,aS,aP,aq,ah,aD,aj,ac,Value.oneCell',ai,bj];apply hK)
  refine af rfl (fun h=>by simp at h) (fun _=>?_)
  (refine aa [] fun K hK=>?_;simp(disch:=omega) only[kc,ab,Nat.reduceAdd,aw,ao,bJ,cC,Nat.add_zero,au,ax,cg];apply hK)
  refine af rfl (fun _=>?_) (fun h=>by simp at h)
  (refine aa [] fun K hK=>?_;simp(disch:=omega) only[kc,ab,ac,Value.oneCell'];apply hK)
  (refine aE ⟨.inr rfl,aJ rfl ?_ rfl⟩;simp(disch:=omega) only[bK,Tryz.results85,aN,List.getElem?_cons_succ,List.getElem?_cons_zero])
 ·subst hz
  rw[show sg 0=0 from rfl]
  rw[Int.natAbs_zero,cD]at ht
  rw[show tZ 0= .agg [.p (.raw (.bool false)),.p (.sl (ls fU []))]from by simp[tZ,cD]]
  refine aC Tryz.func85 rfl (by kernel_rfl) ?_;rw[Tryz.ntmps85]
  (refine aa [] fun K hK=>?_;simp(disch:=omega) only[kc,ab,gS,List.replicate,cd,aT,aI,cellsOf,isPure,Nat.reduceAdd,bL,ac,Value.oneCell'];apply hK)
  refine ae (aU ?_)
  (refine aa [⟨2,_,_,_,ht⟩] fun K hK=>?_;simp(disch:=omega) only[kc,bO,gS,ar.a,ab,Nat.reduceAdd,aw,ao,bH,cb,au,ax,bW,ak,aT,aI,List.find?_cons,aQ,bo,CallRes.plain,aR,aV,az,noRefTV,ap,aS,aP,aq,ah,aj,ac,Value.oneCell',ai,bE];apply hK)
  refine af rfl (fun _=>?_) (fun h=>by simp at h)
  (refine aa [] fun K hK=>?_;simp(disch:=omega) only[kc,ab,ac,Value.oneCell'];apply hK)
  (refine aE ⟨.inr rfl,aJ rfl ?_ rfl⟩;simp(disch:=omega) only[bK,Tryz.results85,aN,List.getElem?_cons_succ,List.getElem?_cons_zero])
 ·have e:sg z=1:=by unfold sg;rw[if_neg (by omega),if_neg (by omega)]
  have hl':(aK z.natAbs).length≠0:=by omega
  rw[e]
  refine aC Tryz.func85 rfl (by kernel_rfl) ?_;rw[Tryz.ntmps85]
  (refine aa [] fun K hK=>?_;simp(disch:=omega) only[kc,ab,tZ,bj,List.replicate,cd,aT,aI,cellsOf,isPure,Nat.reduceAdd,bL,ac,Value.oneCell'];apply hK)
  refine ae (aU ?_)
  (refine aa [⟨2,_,_,_,ht⟩] fun K hK=>?_;simp(disch:=omega) only[kc,bO,ar.a,ab,Nat.reduceAdd,aw,ao,bH,cb,au,ax,bW,ak,aT,aI,List.find?_cons,aQ,bo,CallRes.plain,aR,aV,az,noRefTV,ap,aS,aP,aq,ah,aD,aj,ac,Value.oneCell',ai,bj];apply hK)
  refine af rfl (fun h=>by simp at h) (fun _=>?_)
  (refine aa [] fun K hK=>?_;simp(disch:=omega) only[kc,ab,Nat.reduceAdd,aw,ao,bJ,cC,Nat.add_zero,au,ax,cg];apply hK)
  refine af rfl (fun h=>by simp at h) (fun _=>ay ?_)
  show bX _ _ _ _
  (refine aa [] fun K hK=>?_;simp(disch:=omega) only[kc,ab,ac,Value.oneCell'];apply hK)
  (refine aE ⟨.inr rfl,aJ rfl ?_ rfl⟩;simp(disch:=omega) only[bK,Tryz.results85,aN,List.getElem?_cons_succ,List.getElem?_cons_zero])
theorem sX (z:Int) (h:Bg z):CallC Tryz.prog 22 [tZ z] ⟨[],mG z⟩:=by
 have ht:=dQ (aK z.natAbs) h.len
 rw[fx]at ht
 have hl:=h.len
 by_cases h2:2<(aK z.natAbs).length
 ·have hb:=vD h2
  rw[show mG z= .tup [(false,[.p (.raw (.int .i64 0))]),(false,[.p (.raw (.bool false))])] by unfold mG;rw[if_neg (by omega)]]
  refine aC Tryz.func22 rfl (by kernel_rfl) ?_;rw[Tryz.ntmps22]
  (refine aa [] fun K hK=>?_;simp(disch:=omega) only[kc,ab,Nat.reduceAdd,tZ,List.replicate,cd,aT,aI,cellsOf,isPure,bL,ac,Value.oneCell'];apply hK)
  (refine aa [⟨2,_,_,_,ht⟩] fun K hK=>?_;simp(disch:=omega) only[kc,bO,ar.a,ab,Nat.reduceAdd,aw,ao,bH,cb,au,ax,bW,ak,aT,aI,List.find?_cons,aQ,bo,CallRes.plain,aR,aV,az,noRefTV,ap,aS,aP];apply hK)
  (refine ae (aa [] fun K hK=>?_);simp(disch:=omega) only[kc,ab,Nat.reduceAdd,aq,ao,ah,aD,aj,ac,Value.oneCell',ai,bE];apply hK)
  refine af rfl (fun _=>?_) (fun h=>by simp at h<;>omega)
  (refine aa [] fun K hK=>?_;simp(disch:=omega) only[kc,ab,ac,Value.oneCell'];apply hK)
  (refine aE ⟨.inr rfl,aJ rfl ?_ rfl⟩;simp(disch:=omega) only[bK,Tryz.results22,dc,aN,List.getElem?_cons_succ,List.getElem?_cons_zero,Option.bind_some,b7,Option.map_some])
 ·have hb:=fN (n:=z.natAbs) (by omega)
  have hw:=k9 (aK z.natAbs) (aY _) (by omega)
  rw[aG]at hw
  by_cases hz:z<0
  ·by_cases hz2:z.natAbs<=9223372036854775808
   ·have e1:IntKind.i64.wrap (IntKind.u64.wrap (0-(z.natAbs:Int)))=z:=by
     rw[IntKind.wrap_u64]
     have:(0-(z.natAbs:Int))%18446744073709551616=18446744073709551616+z:=by omega
     rw[this,IntKind.wrap_i64]
     omega
    rw[show mG z= .tup [(false,[.p (.raw (.int .i64 z))]),(false,[.p (.raw (.bool true))])] by unfold mG;rw[if_pos (by omega)]]
    refine aC Tryz.func22 rfl (by kernel_rfl) ?_;rw[Tryz.ntmps22]
    (refine aa [] fun K hK=>?_;simp(disch:=omega) only[kc,ab,Nat.reduceAdd,tZ,bE,List.replicate,cd,aT,aI,cellsOf,isPure,bL,ac,Value.oneCell'];apply hK)
    (refine aa [⟨2,_,_,_,ht⟩] fun K hK=>?_;simp(disch:=omega) only[kc,bO,ar.a,ab,Nat.reduceAdd,aw,ao,bH,cb,au,ax,bW,ak,aT,aI,List.find?_cons,aQ,bo,CallRes.plain,aR,aV,az,noRefTV,ap,aS,aP];apply hK)
    (refine ae (aa [] fun K hK=>?_);simp(disch:=omega) only[kc,ab,Nat.reduceAdd,aq,ao,ah,aD,aj,ac,Value.oneCell',ai,bj];apply hK)
    refine af rfl (fun h=>by simp at h<;>omega) (fun _=>ay ?_)
    show bX _ _ _ _
    (refine aa [⟨1,_,_,_,hw⟩] fun K hK=>?_;simp(disch:=omega) only[kc,bO,ar.a,ab,Nat.reduceAdd,ak,aT,aI,List.find?_cons,aQ,bo,CallRes.plain,aR,aV,az,noRefTV,ap,aS,aP];apply hK)
    refine ae (aU ?_)
    (refine aa [] fun K hK=>?_;simp(disch:=omega) only[kc,ab,Nat.reduceAdd,aw,ao,bJ,cC,Nat.add_zero,au,ax,cg,aA,aj,ac,Value.oneCell',bL,ai,bE,aM];apply hK)
    refine af rfl (fun _=>?_) (fun h=>by simp at h<;>omega)
    (refine aa [] fun K hK=>?_;simp(disch:=omega) only[kc,ab,Nat.reduceAdd,cX,aj,eA,bf,Tryz.underlying88,wb,e1,ac,Value.oneCell'];apply hK)
    (refine aE ⟨.inr rfl,aJ rfl ?_ rfl⟩;simp(disch:=omega) only[bK,Tryz.results22,dc,aN,List.getElem?_cons_succ,List.getElem?_cons_zero,Option.bind_some,b7,Option.map_some])
   ·rw[show mG z= .tup [(false,[.p (.raw (.int .i64 0))]),(false,[.p (.raw (.bool false))])] by unfold mG;rw[if_neg (by omega)]]
    refine aC Tryz.func22 rfl (by kernel_rfl) ?_;rw[Tryz.ntmps22]
    (refine aa [] fun K hK=>?_;simp(disch:=omega) only[kc,ab,Nat.reduceAdd,tZ,bE,List.replicate,cd,aT,aI,cellsOf,isPure,bL,ac,Value.oneCell'];apply hK)
    (refine aa [⟨2,_,_,_,ht⟩] fun K hK=>?_;simp(disch:=omega) only[kc,bO,ar.a,ab,Nat.reduceAdd,aw,ao,bH,cb,au,ax,bW,ak,aT,aI,List.find?_cons,aQ,bo,CallRes.plain,aR,aV,az,noRefTV,ap,aS,aP];apply hK)
    (refine ae (aa [] fun K hK=>?_);simp(disch:=omega) only[kc,ab,Nat.reduceAdd,aq,ao,ah,aD,aj,ac,Value.oneCell',ai,bj];apply hK)
    refine af rfl (fun h=>by simp at h<;>omega) (fun _=>ay ?_)
    show bX _ _ _ _
    (refine aa [⟨1,_,_,_,hw⟩] fun K hK=>?_;simp(disch:=omega) only[kc,bO,ar.a,ab,Nat.reduceAdd,ak,aT,aI,List.find?_cons,aQ,bo,CallRes.plain,aR,aV,az,noRefTV,ap,aS,aP];apply hK)
    refine ae (aU ?_)
    (refine aa [] fun K hK=>?_;simp(disch:=omega) only[kc,ab,Nat.reduceAdd,aw,ao,bJ,cC,Nat.add_zero,au,ax,cg,aA,aj,ac,Value.oneCell',bL,ai,bj,aM];apply hK)
    refine af rfl (fun h=>by simp at h<;>omega) (fun _=>?_)
    (refine aa [] fun K hK=>?_;simp(disch:=omega) only[kc,ab,Nat.reduceAdd,aw,ao,bJ,cC,Nat.add_zero,au,ax,cg,cX,aj,eA,aA,ac,Value.oneCell',Option.map_none,aM];apply hK)
    refine af rfl (fun h=>by simp at h<;>omega) (fun _=>ay ?_)
    show bX _ _ _ _
    (refine aa [] fun K hK=>?_;simp(disch:=omega) only[kc,ab,ac,Value.oneCell'];apply hK)
    (refine aE ⟨.inr rfl,aJ rfl ?_ rfl⟩;simp(disch:=omega) only[bK,Tryz.results22,dc,aN,List.getElem?_cons_succ,List.getElem?_cons_zero,Option.bind_some,b7,Option.map_some])
  ·by_cases hz2:z.natAbs<9223372036854775808
   ·have e1:IntKind.i64.wrap (z.natAbs:Int)=z:=by rw[IntKind.wrap_i64];omega
    rw[show mG z= .tup [(false,[.p (.raw (.int .i64 z))]),(false,[.p (.raw (.bool true))])] by unfold mG;rw[if_pos (by omega)]]
    refine aC Tryz.func22 rfl (by kernel_rfl) ?_;rw[Tryz.ntmps22]
    (refine aa [] fun K hK=>?_;simp(disch:=omega) only[kc,ab,Nat.reduceAdd,tZ,bj,List.replicate,cd,aT,aI,cellsOf,isPure,bL,ac,Value.oneCell'];apply hK)
    (refine aa [⟨2,_,_,_,ht⟩] fun K hK=>?_;simp(disch:=omega) only[kc,bO,ar.a,ab,Nat.reduceAdd,aw,ao,bH,cb,au,ax,bW,ak,aT,aI,List.find?_cons,aQ,bo,CallRes.plain,aR,aV,az,noRefTV,ap,aS,aP];apply hK)
    (refine ae (aa [] fun K hK=>?_);simp(disch:=omega) only[kc,ab,Nat.reduceAdd,aq,ao,ah,aD,aj,ac,Value.oneCell',ai,bj];apply hK)
    refine af rfl (fun h=>by simp at h<;>omega) (fun _=>ay ?_)
    show bX _ _ _ _
    (refine aa [⟨1,_,_,_,hw⟩] fun K hK=>?_;simp(disch:=omega) only[kc,bO,ar.a,ab,Nat.reduceAdd,ak,aT,aI,List.find?_cons,aQ,bo,CallRes.plain,aR,aV,az,noRefTV,ap,aS,aP];apply hK)
    refine ae (aU ?_)
    (refine aa [] fun K hK=>?_;simp(disch:=omega) only[kc,ab,Nat.reduceAdd,aw,ao,bJ,cC,Nat.add_zero,au,ax,cg,aA,aj,ac,Value.oneCell',Option.map_none,aM];apply hK)
    refine af rfl (fun h=>by simp at h<;>omega) (fun _=>?_)
    (refine aa [] fun K hK=>?_;simp(disch:=omega) only[kc,ab,Nat.reduceAdd,aw,ao,bJ,cC,Nat.add_zero,au,ax,cg,cX,aj,eA,Bool.not_false,aA,ac,Value.oneCell',bL,ai,bE,aM];apply hK)
    refine af rfl (fun _=>?_) (fun h=>by simp at h<;>omega)
    (refine aa [] fun K hK=>?_;simp(disch:=omega) only[kc,ab,Nat.reduceAdd,bf,aj,Tryz.underlying88,wb,e1,ac,Value.oneCell'];apply hK)
    (refine aE ⟨.inr rfl,aJ rfl ?_ rfl⟩;simp(disch:=omega) only[bK,Tryz.results22,dc,aN,List.getElem?_cons_succ,List.getElem?_cons_zero,Option.bind_some,b7,Option.map_some])
   ·rw[show mG z= .tup [(false,[.p (.raw (.int .i64 0))]),(false,[.p (.raw (.bool false))])] by unfold mG;rw[if_neg (by omega)]]
    refine aC Tryz.func22 rfl (by kernel_rfl) ?_;rw[Tryz.ntmps22]
    (refine aa [] fun K hK=>?_;simp(disch:=omega) only[kc,ab,Nat.reduceAdd,tZ,bj,List.replicate,cd,aT,aI,cellsOf,isPure,bL,ac,Value.oneCell'];apply hK)
    (refine aa [⟨2,_,_,_,ht⟩] fun K hK=>?_;simp(disch:=omega) only[kc,bO,ar.a,ab,Nat.reduceAdd,aw,ao,bH,cb,au,ax,bW,ak,aT,aI,List.find?_cons,aQ,bo,CallRes.plain,aR,aV,az,noRefTV,ap,aS,aP];apply hK)
    (refine ae (aa [] fun K hK=>?_);simp(disch:=omega) only[kc,ab,Nat.reduceAdd,aq,ao,ah,aD,aj,ac,Value.oneCell',ai,bj];apply hK)
    refine af rfl (fun h=>by simp at h<;>omega) (fun _=>ay ?_)
    show bX _ _ _ _
    (refine aa [⟨1,_,_,_,hw⟩] fun K hK=>?_;simp(disch:=omega) only[kc,bO,ar.a,ab,Nat.reduceAdd,ak,aT,aI,List.find?_cons,aQ,bo,CallRes.plain,aR,aV,az,noRefTV,ap,aS,aP];apply hK)
    refine ae (aU ?_)
    (refine aa [] fun K hK=>?_;simp(disch:=omega) only[kc,ab,Nat.reduceAdd,aw,ao,bJ,cC,Nat.add_zero,au,ax,cg,aA,aj,ac,Value.oneCell',Option.map_none,aM];apply hK)
    refine af rfl (fun h=>by simp at h<;>omega) (fun _=>?_)
    (refine aa [] fun K hK=>?_;simp(disch:=omega) only[kc,ab,Nat.reduceAdd,aw,ao,bJ,cC,Nat.add_zero,au,ax,cg,cX,aj,eA,Bool.not_false,aA,ac,Value.oneCell',bL,ai,bj,aM];apply hK)
    refine af rfl (fun h=>by simp at h<;>omega) (fun _=>ay ?_)
    show bX _ _ _ _
    (refine aa [] fun K hK=>?_;simp(disch:=omega) only[kc,ab,ac,Value.oneCell'];apply hK)
    (refine aE ⟨.inr rfl,aJ rfl ?_ rfl⟩;simp(disch:=omega) only[bK,Tryz.results22,dc,aN,List.getElem?_cons_succ,List.getElem?_cons_zero,Option.bind_some,b7,Option.map_some])
/-! Clone: a walk of the older kind, for it holds the slice against nil. -/
theorem nX (A:Option Addr) (c:Nat) (x:List Int) (w:World) (hx:RdI .u32 w A x) (hl:x.length*4<=140737488355328):
  Calls Tryz.prog 123 #[.slice A x.length c] w fun e w'=> ∃v,e= .returned v/\w'.ownsRow w.heap.size 118 1 v x.length (x.map (Value.int .u32))/\Ext w w':=by
 have hnil:=fun(w:World) (n c:Nat)=>Lib.run_eql_slice_nil (P:=Tryz.prog) w 51 118 A n c 0 0 Tryz.underlying51
 cases A with
 |none=>
  have hx0:x=[]:=by
   cases x with
   |nil=>rfl
   |cons a l=>obtain⟨_,_,h,_⟩:=hx (by simp);cases h
  subst hx0
  go_enter Tryz.func123,Tryz.ntmps123
  go_wp2_with fail
  go_ret
  exact⟨_,rfl,World.ownsRow_nil _ _ _ _,Ext.refl _⟩
 |some a=>
  go_enter Tryz.func123,Tryz.ntmps123
  go_wp2_with (at_builtin;refine fC _ rfl (.tmp 5) (.tmp 6) _ rfl w.heap.size 118 (.int .u32 0) 1 4 Tryz.underlying51 Tryz.inU32 rfl (by omega) _ 0 [] rfl (World.ownsRow_made w #[] 0 (Nat.le_refl _) (Nat.zero_le _) rfl) (some a) x.length c _ rfl (Rd.ext hx ((Ext.refl _).alloc _)) (by simp) l5 (by simp only[maxLen];omega) (by omega) (by simp) ?_;intro v1 w1 hown1 hg1 _)
  go_ret
  exact⟨_,rfl,by simpa using hown1,qQ hg1 (World.ownsRow_made w #[] 0 (Nat.le_refl _) (Nat.zero_le _) rfl:World.ownsRow _ w.heap.size 118 1 _ 0 []) ((Ext.refl w).alloc _) (Nat.le_refl _)⟩
theorem wt {X:Nat->Prop} {w:World} {l:List Nat} {v:Value} (h:cO X w (.sl (ls fU l)) v): ∃A c,v= .slice A l.length c/\l.length<=c/\RdI .u32 w A (l.map fun n:Nat=>(n:Int)):=by
 generalize hx:PV.sl (ls fU l)=x at h
 cases h with
 |raw v h=>cases hx
 |ptr b off cs f hX hb hc hr=>cases hx
 |nil a c=>
  injection hx with hx
  have hl:l=[]:=by simpa[ls] using hx
  subst hl
  exact⟨a,c,rfl,Nat.zero_le _,RdI.nil _ _ _⟩
 |sl b off es cap xs f hX hb hes hcap hm hc hr=>
  injection hx with hx
  subst hx
  rw[aD]at hcap hm
  refine⟨some ⟨b,off,none⟩,cap,by rw[aD],hcap,fun hne=>⟨b,off,rfl,fun i x hx=>?_⟩⟩
  rw[List.getElem?_map,List.getElem?_map]at hx
  obtain⟨z',hz',rfl⟩:=Option.map_eq_some_iff.1 hx
  obtain⟨z,hz,rfl⟩:=Option.map_eq_some_iff.1 hz'
  have h1:(ls fU l)[i]?=some (fU z):=by rw[bI,hz];rfl
  have he:es=1:=by rw[<- hes _ (List.mem_of_getElem? h1)];rfl
  subst he
  have h2:=hc i _ 0 _ h1 rfl
  have h3:=l6 (hr i _ 0 _ h1 rfl)
  rw[h3,Nat.mul_one,Nat.add_zero]at h2
  exact h2
theorem zi {w':World} {k:Nat} {v:Value} {l:List Nat} {Y:Nat->Prop} (hY: ∀b,Y b->b<k) (hm:l.length<=9223372036854775807) (h:w'.ownsRow k 118 1 v l.length ((l.map fun n:Nat=>(n:Int)).map (Value.int .u32))):cO Y w' (.sl (ls fU l)) v:=by
 obtain⟨hl,h2⟩:=h
 rcases h2 with⟨hv,hn⟩|⟨g,cap,cur,hv,hg,hh,hnc,hm2,hs,ht⟩
 ·have:l=[]:=List.eq_nil_of_length_eq_zero (by omega)
  subst this
  rw[hv]
  exact cO.nil _ _
 ·rw[hv]
  have hcell: ∀(i:Nat) z,l[i]?=some z->cur[i]?=some (.int .u32 (z:Int)):=fun i z hz=>by
   have h3:((l.map fun n:Nat=>(n:Int)).map (Value.int .u32))[i]?=some (.int .u32 (z:Int)):=by rw[List.getElem?_map,List.getElem?_map,hz];rfl
   rw[<- ht,List.getElem?_take]at h3
   split at h3
   ·simpa using h3
   ·cases h3
  have:=cO.sl (X:=Y) (w:=w') g 0 1 cap (ls fU l) (fun i _=>(cur[i]?).getD undef) (fun h=>absurd (hY _ h) (by omega)) (Array.getElem?_eq_some_iff.1 hh).1 (fun e he=>by
   obtain⟨z,_,rfl⟩:=List.mem_map.1 he
   rfl) (by rw[aD];exact hnc) (by rw[aD];exact hm) (fun i e j x he hx=>by
   rw[bI]at he
   obtain⟨z,hz,rfl⟩:=Option.map_eq_some_iff.1 he
   cases j with
   |succ j=>simp[fU]at hx
   |zero=>
    rw[cell_of_row _ g _ cur _ _ hh,Nat.zero_add,Nat.mul_one,Nat.add_zero,hcell i z hz];rfl) (fun i e j x he hx=>by
   rw[bI]at he
   obtain⟨z,hz,rfl⟩:=Option.map_eq_some_iff.1 he
   cases j with
   |succ j=>simp[fU]at hx
   |zero=>
    simp[fU]at hx
    subst hx
    simp only[hcell i z hz,Option.getD_some]
    exact cO.raw _ rfl)
  rw[aD]at this
  exact this
theorem pA (l:List Nat) (hl:l.length<=1073741824):CallC Tryz.prog 123 [bO l] ⟨[],bO l⟩:=by
 refine uI (by kernel_rfl) fun X w vs hX hvs ha=>?_
 obtain⟨v0,e0,r0⟩:=D6 ha (j:=0) rfl
 obtain⟨A,c,rfl,hc,hR⟩:=wt r0
 obtain rfl:vs= #[.slice A l.length c]:=by
  apply Array.ext_getElem?
  intro j
  match j with
  |0=>exact e0
  |j+1=>rw[Array.getElem?_eq_none (by simp at hvs;omega)];rfl
 have hlen:(l.map fun n:Nat=>(n:Int)).length=l.length:=List.length_map _
 have:=nX A c (l.map fun n:Nat=>(n:Int)) w hR (by rw[hlen];omega)
 rw[hlen]at this
 refine this.mono fun e w' ⟨v,h1,h2,h3⟩=>⟨v,h1,fun ρ H Y hY=>zi hY (by omega) h2,h3⟩
theorem rZ (z:Int) (h:Bg z):CallC Tryz.prog 90 [tZ z] ⟨[],tZ z⟩:=by
 have ht:=dQ (aK z.natAbs) h.len
 rw[fx]at ht
 have hc:=pA (aK z.natAbs) h.len
 have hb:=dP (decide (z<0)) z.natAbs
 rw[rA]at hb
 refine aC Tryz.func90 rfl (by kernel_rfl) ?_;rw[Tryz.ntmps90]
 (refine aa [] fun K hK=>?_;simp(disch:=omega) only[kc,ab,tZ,List.replicate,cd,aT,aI,cellsOf,isPure,Nat.reduceAdd,bL,bs,aZ,Value.oneCell',au,Nat.reduceEqDiff];apply hK)
 (refine bM bU [⟨4,_,_,_,ht⟩,⟨5,_,_,_,hc⟩,⟨6,_,_,_,hb⟩] [] (by kernel_rfl) (by simp) fun K hK=>?_;simp(disch:=omega) only[kc,bO,tZ,ar.a,ab,Nat.reduceAdd,aw,ao,bJ,cC,Nat.add_zero,au,Nat.reduceEqDiff,ax,cg,bH,cb,bW,ak,aT,aI,List.find?_cons,aQ,bo,CallRes.plain,aR,aV,az,noRefTV,ap,aS,aP,Nat.reduceBEq,aB,dr,bN,aF,cellsOf,Nat.le_refl,isPure,bL,putCells,aH,aL];apply hK)
 (refine aE ⟨.inr rfl,aJ rfl ?_ rfl⟩;simp(disch:=omega) only[kc,bK,Tryz.results90,aN,au,Nat.reduceEqDiff,cH,ax,aF,aW,Nat.reduceAdd,Nat.le_refl,tZ])
theorem DW (z:Int) (h:Bg z):CallC Tryz.prog 89 [tZ z] ⟨[],tZ (-z)⟩:=by
 have ht:=dQ (aK z.natAbs) h.len
 rw[fx]at ht
 have hc:=pA (aK z.natAbs) h.len
 have hb:=dP (!decide (z<0)) z.natAbs
 rw[vo]at hb
 refine aC Tryz.func89 rfl (by kernel_rfl) ?_;rw[Tryz.ntmps89]
 (refine aa [] fun K hK=>?_;simp(disch:=omega) only[kc,ab,tZ,List.replicate,cd,aT,aI,cellsOf,isPure,Nat.reduceAdd,bL,bs,aZ,Value.oneCell',au,Nat.reduceEqDiff];apply hK)
 (refine bM bU [⟨5,_,_,_,ht⟩,⟨6,_,_,_,hc⟩,⟨7,_,_,_,hb⟩] [] (by kernel_rfl) (by simp) fun K hK=>?_;simp(disch:=omega) only[kc,bO,tZ,ar.a,ab,Nat.reduceAdd,aw,ao,bJ,cC,Nat.add_zero,au,Nat.reduceEqDiff,ax,cg,cX,aj,eA,bH,cb,bW,ak,aT,aI,List.find?_cons,aQ,bo,CallRes.plain,aR,aV,az,noRefTV,ap,aS,aP,Nat.reduceBEq,aB,dr,bN,aF,cellsOf,Nat.le_refl,isPure,bL,putCells,aH,aL];apply hK)
 (refine aE ⟨.inr rfl,aJ rfl ?_ rfl⟩;simp(disch:=omega) only[kc,bK,Tryz.results89,aN,au,Nat.reduceEqDiff,cH,ax,aF,aW,Nat.reduceAdd,Nat.le_refl,tZ])
theorem kx (o:List Nat) (k v:Nat):(o++List.replicate (k+1) 0).set o.length v=(o++[v])++List.replicate k 0:=by
 rw[List.set_append_right _ _ (Nat.le_refl _),Nat.sub_self,List.replicate_succ,List.set_cons_zero,List.append_assoc];rfl
theorem mv (o:List Nat) (k:Nat):(o++List.replicate (k+1) 0)[o.length]?=some 0:=by
 rw[List.getElem?_append_right (Nat.le_refl _),Nat.sub_self,List.replicate_succ];rfl
theorem nZ (l m:List Nat) (ll:Lmb l) (lm:Lmb m) (cl:kH l) (cm:kH m) (bl:l.length<=1073741824) (bm:m.length<=1073741824):
  CallC Tryz.prog 145 [bO l,bO m] ⟨[],.raw (.int .i64 (fg (natV l) (natV m)))⟩:=by
 rcases Nat.lt_trichotomy l.length m.length with hlt|heq|hgt
 ·rw[jU (fX ll cm hlt)]
  refine aC Tryz.func145 rfl (by kernel_rfl) ?_;rw[Tryz.ntmps145]
  (refine aa [] fun K hK=>?_;simp(disch:=omega) only[kc,ab,bO,Nat.reduceAdd,List.replicate,ac,Value.oneCell'];apply hK)
  refine ae (aU ?_)
  (refine aa [] fun K hK=>?_;simp(disch:=omega) only[kc,ab,Nat.reduceAdd,aq,ao,ah,aD,aj,ai,bE];apply hK)
  refine af rfl (fun _=>?_) (fun h=>by simp at h)
  (refine aa [] fun K hK=>?_;simp(disch:=omega) only[kc,ab,ac,Value.oneCell'];apply hK)
  (refine aE ⟨.inr rfl,aJ rfl ?_ rfl⟩;simp(disch:=omega) only[bK,Tryz.results145,aN,List.getElem?_cons_succ,List.getElem?_cons_zero])
 ·refine aC Tryz.func145 rfl (by kernel_rfl) ?_;rw[Tryz.ntmps145]
  (refine aa [] fun K hK=>?_;simp(disch:=omega) only[kc,ab,bO,Nat.reduceAdd,List.replicate,ac,Value.oneCell'];apply hK)
  refine ae (aU ?_)
  (refine aa [] fun K hK=>?_;simp(disch:=omega) only[kc,ab,Nat.reduceAdd,aq,ao,ah,aD,aj,ai,bj];apply hK)
  refine af rfl (fun h=>by simp at h<;>omega) (fun _=>?_)
  (refine aa [] fun K hK=>?_;simp(disch:=omega) only[kc,ab,Nat.reduceAdd,aq,ao,ah,aD,aj,ai,bj];apply hK)
  refine af rfl (fun h=>by simp at h<;>omega) (fun _=>ay ?_)
  show bX _ _ _ _
  (refine ae (aa [] fun K hK=>?_);simp(disch:=omega) only[kc,ab,Nat.reduceAdd,aq,ao,ah,aD,aj,ac,Value.oneCell',ai,bC];apply hK)
  refine bT (G:={k:Nat//k<=l.length/\l.drop k=m.drop k}) (fun k=>⟨[bO l,bO m,jk,jk,jk,.raw (.int .i64 ((k.1:Int)-1)),jk,jk,jk,jk,jk,jk,jk,jk,jk,jk,jk,jk,jk,jk,jk,jk,jk,jk,jk,jk,jk,jk,jk,jk,jk,jk,jk,jk,jk,jk,jk,jk,jk,jk,jk,jk,jk,jk,jk],Hm []⟩) (fun k=>k.1) ⟨l.length,Nat.le_refl _,by rw[List.drop_length,heq,List.drop_length]⟩ ?_ ?_
  ·refine am trivial ?_
   simp[cu,bD,bA]
  ·rintro⟨k,hk,hd⟩
   simp only
   by_cases h0:0<k
   ·obtain⟨a,ha⟩:=getElem?_of_lt (l:=l) (k:=k-1) (by omega)
    obtain⟨b,hb⟩:=getElem?_of_lt (l:=m) (k:=k-1) (by omega)
    have e1:((k:Int)-1).toNat=k-1:=by omega
    have hd':l.drop (k-1+1)=m.drop (k-1+1):=by rw[show k-1+1=k by omega];exact hd
    (refine ae (aa [] fun K hK=>?_);simp(disch:=omega) only[kc,ab,bO,Hm,aj,ac,Value.oneCell',ai,bE];apply hK)
    refine af rfl (fun _=>ay ?_) (fun h=>by simp at h)
    refine ae (aU ?_)
    refine aU ?_
    rcases Nat.lt_trichotomy a b with hab|hab|hab
    ·rw[jU (i5 ll ha hb hd' hab)]
     (refine bM bU [] [] (by kernel_rfl) (by simp) fun K hK=>?_;simp(disch:=omega) only[kc,ab,Nat.reduceAdd,ag,ao,an,e1,ah,bI,ha,fU,aO,ax,bu,hb,aj,ai,bE];apply hK)
     refine af rfl (fun _=>?_) (fun h=>by simp at h<;>omega)
     (refine aa [] fun K hK=>?_;simp(disch:=omega) only[kc,ab,ac,Value.oneCell'];apply hK)
     (refine aE ⟨.inr rfl,aJ rfl ?_ rfl⟩;simp(disch:=omega) only[bK,Tryz.results145,aN,List.getElem?_cons_succ,List.getElem?_cons_zero])
    ·subst hab
     (refine bM bU [] [] (by kernel_rfl) (by simp) fun K hK=>?_;simp(disch:=omega) only[kc,ab,Nat.reduceAdd,ag,ao,an,e1,ah,bI,ha,fU,aO,ax,bu,hb,aj,ai,bj];apply hK)
     refine af rfl (fun h=>by simp at h<;>omega) (fun _=>?_)
     (refine bM bU [] [] (by kernel_rfl) (by simp) fun K hK=>?_;simp(disch:=omega) only[kc,ab,Nat.reduceAdd,ag,ao,an,e1,ah,bI,ha,fU,aO,ax,bu,hb,aj,ai,bj];apply hK)
     refine af rfl (fun h=>by simp at h<;>omega) (fun _=>ay ?_)
     show bX _ _ _ _
     ((refine aX [] [] (by simp) fun K hK=>?_);simp(disch:=omega) only[kc,ab,Nat.reduceAdd,aj,ac,Value.oneCell',ai,bC];apply hK)
     refine⟨⟨k-1,by omega,qi ha hb hd'⟩,by simp only;omega,am trivial ?_⟩
     have e2:((k-1:Nat):Int)=(k:Int)-1:=by omega
     simp[cu,bD,bA,e2]
    ·rw[nw (i5 lm hb ha hd'.symm hab)]
     (refine bM bU [] [] (by kernel_rfl) (by simp) fun K hK=>?_;simp(disch:=omega) only[kc,ab,Nat.reduceAdd,ag,ao,an,e1,ah,bI,ha,fU,aO,ax,bu,hb,aj,ai,bj];apply hK)
     refine af rfl (fun h=>by simp at h<;>omega) (fun _=>?_)
     (refine bM bU [] [] (by kernel_rfl) (by simp) fun K hK=>?_;simp(disch:=omega) only[kc,ab,Nat.reduceAdd,ag,ao,an,e1,ah,bI,ha,fU,aO,ax,bu,hb,aj,ai,bE];apply hK)
     refine af rfl (fun _=>?_) (fun h=>by simp at h<;>omega)
     (refine aa [] fun K hK=>?_;simp(disch:=omega) only[kc,ab,ac,Value.oneCell'];apply hK)
     (refine aE ⟨.inr rfl,aJ rfl ?_ rfl⟩;simp(disch:=omega) only[bK,Tryz.results145,aN,List.getElem?_cons_succ,List.getElem?_cons_zero])
   ·have hk0:k=0:=by omega
    subst hk0
    have hlm:l=m:=by simpa using hd
    rw[show fg (natV l) (natV m)=0 by rw[hlm];simp[fg]]
    (refine ae (aa [] fun K hK=>?_);simp(disch:=omega) only[kc,ab,bO,Hm,aj,ac,Value.oneCell',ai,bj];apply hK)
    refine af rfl (fun h=>by simp at h) (fun _=>bF ?_)
    show bX _ _ _ _
    (refine aa [] fun K hK=>?_;simp(disch:=omega) only[kc,ab,ac,Value.oneCell'];apply hK)
    (refine aE ⟨.inr rfl,aJ rfl ?_ rfl⟩;simp(disch:=omega) only[bK,Tryz.results145,aN,List.getElem?_cons_succ,List.getElem?_cons_zero])
 ·rw[nw (fX lm cl hgt)]
  refine aC Tryz.func145 rfl (by kernel_rfl) ?_;rw[Tryz.ntmps145]
  (refine aa [] fun K hK=>?_;simp(disch:=omega) only[kc,ab,bO,Nat.reduceAdd,List.replicate,ac,Value.oneCell'];apply hK)
  refine ae (aU ?_)
  (refine aa [] fun K hK=>?_;simp(disch:=omega) only[kc,ab,Nat.reduceAdd,aq,ao,ah,aD,aj,ai,bj];apply hK)
  refine af rfl (fun h=>by simp at h<;>omega) (fun _=>?_)
  (refine aa [] fun K hK=>?_;simp(disch:=omega) only[kc,ab,Nat.reduceAdd,aq,ao,ah,aD,aj,ai,bE];apply hK)
  refine af rfl (fun _=>?_) (fun h=>by simp at h)
  (refine aa [] fun K hK=>?_;simp(disch:=omega) only[kc,ab,ac,Value.oneCell'];apply hK)
  (refine aE ⟨.inr rfl,aJ rfl ?_ rfl⟩;simp(disch:=omega) only[bK,Tryz.results145,aN,List.getElem?_cons_succ,List.getElem?_cons_zero])
structure Fi (m n:List Nat) (e:Nat) where
 i:Nat
 o:List Nat
 c:Nat
 hi:i<=e
 hc:c<=1
 ho:o.length=i
 h:o++sumL (m.drop i) (n.drop i) c=sumL m n 0
structure Fj (m n:List Nat) where
 j:Nat
 o:List Nat
 c:Nat
 hj:n.length+j<=m.length
 hc:c<=1
 ho:o.length=n.length+j
 h:o++sumL (m.drop (n.length+j)) [] c=sumL m n 0
theorem qR (m n:List Nat) (lm:Lmb m) (ln:Lmb n) (bm:m.length<=536870912) (bn:n.length<=536870912):
  CallC Tryz.prog 121 [bO m,bO n] ⟨[],bO (aK (natV m+natV n))⟩:=by
 refine aC Tryz.func121 rfl (by kernel_rfl) ?_;rw[Tryz.ntmps121]
 (refine aa [] fun K hK=>?_;simp(disch:=omega) only[kc,ab,bO,Nat.reduceAdd,List.replicate,ac,Value.oneCell'];apply hK)
 obtain⟨p,q,hpq,hle⟩: ∃p q:List Nat,((p=m/\q=n/\ ¬m.length<n.length)\/(p=n/\q=m/\m.length<n.length))/\q.length<=p.length:=by
  by_cases h:m.length<n.length
  ·exact⟨n,m,.inr ⟨rfl,rfl,h⟩,by omega⟩
  ·exact⟨m,n,.inl ⟨rfl,rfl,h⟩,by omega⟩
 refine ae (jg (S:=⟨[bO p,bO q,jk,jk,jk,jk,jk,jk,jk,jk,jk,jk,jk,jk,jk,jk,jk,jk,jk,jk,jk,jk,jk,jk,jk,jk,jk,jk,jk,jk,jk,jk,jk,jk,jk,jk,jk,jk,jk,jk,jk,jk,jk,jk,jk,jk,jk,jk,jk,jk,jk,jk,jk,jk,jk,jk,jk,jk,jk,jk,jk,jk,jk,jk,jk,jk,jk,jk,jk,jk,jk,jk,jk,jk,jk,jk,jk,jk,jk,jk,jk,jk,jk],Hm []⟩) ?_ ?_)
 ·rcases hpq with⟨rfl,rfl,h⟩|⟨rfl,rfl,h⟩
  ·(refine aa [] fun K hK=>?_;simp(disch:=omega) only[kc,ab,Nat.reduceAdd,aq,ao,ah,aD,aj,ai,bj];apply hK)
   refine af rfl (fun h=>by simp at h<;>omega) (fun _=>ay (am trivial ?_))
   simp[cu,bD,bA]
  ·(refine aa [] fun K hK=>?_;simp(disch:=omega) only[kc,ab,Nat.reduceAdd,aq,ao,ah,aD,aj,ai,bE];apply hK)
   refine af rfl (fun _=>?_) (fun h=>by simp at h<;>omega)
   ((refine aX [] [] (by simp) fun K hK=>?_);simp(disch:=omega) only[kc,ab,Nat.reduceAdd];apply hK)
   refine am trivial ?_
   simp[cu,bD,bA]
 ·have hsum:natV m+natV n=natV p+natV q:=by rcases hpq with⟨rfl,rfl,_⟩|⟨rfl,rfl,_⟩<;>omega
  have lp:Lmb p:=by rcases hpq with⟨rfl,rfl,_⟩|⟨rfl,rfl,_⟩<;>assumption
  have lq:Lmb q:=by rcases hpq with⟨rfl,rfl,_⟩|⟨rfl,rfl,_⟩<;>assumption
  have bp:p.length<=536870912:=by rcases hpq with⟨rfl,rfl,_⟩|⟨rfl,rfl,_⟩<;>assumption
  rw[hsum]
  clear hsum hpq lm ln bm bn
  have ep:(p.length:Int)+1=((p.length+1:Nat):Int):=by omega
  (refine aa [] fun K hK=>?_;simp(disch:=omega) only[kc,ab,Nat.reduceAdd,bO,Hm,aq,ao,ah,aD,aj,ac,Value.oneCell',ai,ep,bC,ca,aT,aI,cp,aO,dz,Int.natCast_nonneg,and_true,iV,bL];apply hK)
  (refine aa [] fun K hK=>?_;simp(disch:=omega) only[kc,ab,ac,Value.oneCell'];apply hK)
  (refine ae (aa [] fun K hK=>?_);simp(disch:=omega) only[kc,ab,Nat.reduceAdd,aq,ao,ah,aD,ac,Value.oneCell'];apply hK)
  refine bT (G:=Fi p q q.length) (fun g=>⟨[bO p,bO q,jk,jk,jk,.one (.sl 19 0 0 (p.length+1)),.raw (.int .u64 (g.c:Int)),jk,jk,jk,jk,jk,jk,jk,jk,jk,jk,jk,jk,jk,jk,.raw (.int .i64 (q.length:Int)),.raw (.int .i64 (g.i:Int)),jk,jk,jk,jk,jk,jk,jk,jk,jk,jk,jk,jk,jk,jk,jk,jk,jk,jk,jk,jk,jk,jk,jk,jk,jk,jk,jk,jk,jk,jk,jk,jk,jk,jk,jk,jk,jk,jk,jk,jk,jk,jk,jk,jk,jk,jk,jk,jk,jk,jk,jk,jk,jk,jk,jk,jk,jk,jk,jk,jk],Hm [(19,[⟨118,1,lc fU (g.o++List.replicate (p.length+1-g.i) 0)⟩])]⟩) (fun g=>q.length-g.i) ⟨0,[],0,by omega,by omega,rfl,rfl⟩ ?_ ?_
  ·refine am ⟨?_,trivial⟩ ?_
   ·simp[au,Hm]
   ·simp[cu,bD,bA]
  ·rintro⟨i,o,c,hi,hc,ho,h⟩
   simp only
   by_cases hm:i<q.length
   ·obtain⟨a,ha⟩:=getElem?_of_lt (show i<p.length by omega)
    obtain⟨b,hb⟩:=getElem?_of_lt hm
    have ha':=ct lp ha
    have hb':=ct lq hb
    have e1:IntKind.u32.wrap ((c:Int)+((a:Int)+(b:Int)))=(((c+a+b)%4294967296:Nat):Int):=by rw[<- nB];congr 1<;>omega
    have e2:Int.fdiv ((c:Int)+((a:Int)+(b:Int))) (2^(min 32 IntKind.u64.bits))=(((c+a+b)/4294967296:Nat):Int):=by rw[<- ya];congr 1<;>omega
    have hz:p.length+1-i=(p.length-i)+1:=by omega
    have hg:=mv o (p.length-i)
    have hs:=kx o (p.length-i) ((c+a+b)%4294967296)
    rw[ho]at hg hs
    rw[hz]
    (refine aa [] fun K hK=>?_;simp(disch:=omega) only[kc,ab,bO,Hm,aj,ai,bE];apply hK)
    refine ae (af rfl (fun _=>ay ?_) (fun h=>by simp at h<;>omega))
    refine ae (aU ?_)
    (refine aa [] fun K hK=>?_;simp(disch:=omega) only[kc,ab];apply hK)
    (refine bM bU [] [] (by kernel_rfl) (by simp) fun K hK=>?_;simp(disch:=omega) only[kc,ab,Nat.reduceAdd,ag,ao,an,ah,bI,ha,fU,aO,ax,bu,bf,aj,Tryz.underlying118,bP,cS,hb,ai];apply hK)
    (refine aa [] fun K hK=>?_;simp(disch:=omega) only[kc,ab,Nat.reduceAdd,bf,aj,Tryz.underlying88,bZ,e1,ag,ao,an,ah,aO,bL,aB,dr,bN,b8,fU,hg,cellsOf,Nat.le_refl,isPure,putCells,dy,hs,aH,aL];apply hK)
    ((refine aX [] [] (by simp) fun K hK=>?_);simp(disch:=omega) only[kc,ab,Nat.reduceAdd,aj,ac,Value.oneCell',ai,Int.reduceLE,Int.reduceToNat,e2];apply hK)
    show bX _ _ _ _
    ((refine aX [] [] (by simp) fun K hK=>?_);simp(disch:=omega) only[kc,ab,aj,ac,Value.oneCell',ai,bC];apply hK)
    refine⟨⟨i+1,o++[(c+a+b)%4294967296],(c+a+b)/4294967296,by omega,by omega,by simp[ho],?_⟩,by simp only;omega,am ⟨?_,trivial⟩ ?_⟩
    ·rw[<- h,dM ha,dM hb,sumL,List.append_assoc];rfl
    ·show _=[(⟨_,_,lc fU ((o++[(c+a+b)%4294967296])++List.replicate (p.length+1-(i+1)) 0)⟩:OObj)]
     rw[show p.length+1-(i+1)=p.length-i by omega];rfl
    ·simp[cu,bD,bA]
   ·have hin:i=q.length:=by omega
    subst hin
    rw[dA (Nat.le_refl _)]at h
    (refine aa [] fun K hK=>?_;simp(disch:=omega) only[kc,ab,bO,Hm,aj,ai,bj];apply hK)
    refine ae (af rfl (fun h=>by simp at h<;>omega) (fun _=>bF ?_))
    show bX _ _ _ _
    have es:(p.length:Int)-(q.length:Int)=((p.length-q.length:Nat):Int):=by omega
    (refine ae (aa [] fun K hK=>?_);simp(disch:=omega) only[kc,ab,Nat.reduceAdd,aq,ao,ah,aD,aj,ai,es,bC,ac,Value.oneCell'];apply hK)
    refine bT (G:=Fj p q) (fun g=>⟨[bO p,bO q,jk,jk,jk,.one (.sl 19 0 0 (p.length+1)),.raw (.int .u64 (g.c:Int)),jk,jk,jk,jk,jk,jk,jk,jk,jk,jk,jk,jk,jk,jk,jk,jk,jk,jk,jk,jk,jk,jk,jk,jk,jk,jk,jk,jk,jk,jk,jk,jk,jk,jk,jk,jk,jk,jk,jk,jk,jk,jk,jk,.raw (.int .i64 ((p.length-q.length:Nat):Int)),.raw (.int .i64 (g.j:Int)),jk,jk,jk,jk,jk,jk,jk,jk,jk,jk,jk,jk,jk,jk,jk,jk,jk,jk,jk,jk,jk,jk,jk,jk,jk,jk,jk,jk,jk,jk,jk],Hm [(19,[⟨118,1,lc fU (g.o++List.replicate (p.length+1-(q.length+g.j)) 0)⟩])]⟩) (fun g=>p.length-q.length-g.j) ⟨0,o,c,by omega,hc,ho,h⟩ ?_ ?_
    ·refine am ⟨rfl,trivial⟩ ?_
     simp[cu,bD,bA]
    ·clear h ho hc c o
     rintro⟨j,o,c,hj,hc,ho,h⟩
     simp only
     have eNj:(q.length:Int)+(j:Int)=((q.length+j:Nat):Int):=by omega
     by_cases hm2:j<p.length-q.length
     ·obtain⟨a,ha⟩:=getElem?_of_lt (show q.length+j<p.length by omega)
      have ha':=ct lp ha
      have e1:IntKind.u32.wrap ((c:Int)+(a:Int))=(((c+a)%4294967296:Nat):Int):=by rw[<- nB];congr 1<;>omega
      have e2:Int.fdiv ((c:Int)+(a:Int)) (2^(min 32 IntKind.u64.bits))=(((c+a)/4294967296:Nat):Int):=by rw[<- ya];congr 1<;>omega
      have hz:p.length+1-(q.length+j)=(p.length-(q.length+j))+1:=by omega
      have hg:=mv o (p.length-(q.length+j))
      have hs:=kx o (p.length-(q.length+j)) ((c+a)%4294967296)
      rw[ho]at hg hs
      rw[hz]
      (refine aa [] fun K hK=>?_;simp(disch:=omega) only[kc,ab,bO,Hm,aj,ai,bE];apply hK)
      refine ae (af rfl (fun _=>ay ?_) (fun h=>by simp at h<;>omega))
      refine ae (aU ?_)
      (refine aa [] fun K hK=>?_;simp(disch:=omega) only[kc,ab];apply hK)
      (refine aa [] fun K hK=>?_;simp(disch:=omega) only[kc,ab,Nat.reduceAdd,aq,ao,ah,aD,aj,ai,eNj,bC,ag,an,bI,ha,fU,aO,ax,bu,bf,Tryz.underlying118,bP,cS];apply hK)
      (refine aa [] fun K hK=>?_;simp(disch:=omega) only[kc,ab,Nat.reduceAdd,aq,ao,ah,aD,aj,ai,eNj,bC,bf,Tryz.underlying88,bZ,e1,ag,an,aO,bL,aB,dr,bN,b8,fU,hg,cellsOf,Nat.le_refl,isPure,putCells,dy,hs,aH,aL];apply hK)
      ((refine aX [] [] (by simp) fun K hK=>?_);simp(disch:=omega) only[kc,ab,Nat.reduceAdd,aj,ac,Value.oneCell',ai,Int.reduceLE,Int.reduceToNat,e2];apply hK)
      show bX _ _ _ _
      ((refine aX [] [] (by simp) fun K hK=>?_);simp(disch:=omega) only[kc,ab,aj,ac,Value.oneCell',ai,bC];apply hK)
      refine⟨⟨j+1,o++[(c+a)%4294967296],(c+a)/4294967296,by omega,by omega,by simp[ho];omega,?_⟩,by simp only;omega,am ⟨?_,trivial⟩ ?_⟩
      ·rw[<- h,dM ha,sumL,List.append_assoc];rfl
      ·show _=[(⟨_,_,lc fU ((o++[(c+a)%4294967296])++List.replicate (p.length+1-(q.length+(j+1))) 0)⟩:OObj)]
       rw[show p.length+1-(q.length+(j+1))=p.length-(q.length+j) by omega];rfl
      ·simp[cu,bD,bA]
     ·have hje:q.length+j=p.length:=by omega
      rw[hje]at h ho
      rw[dA (Nat.le_refl _),sumL]at h
      have e1:IntKind.u32.wrap (c:Int)=(c:Int):=by rw[nB];omega
      have hz:p.length+1-(q.length+j)=0+1:=by omega
      have hg:=mv o 0
      have hs:=kx o 0 c
      rw[ho]at hg hs
      rw[List.replicate_zero,List.append_nil,h]at hs
      have hsl:(sumL p q 0).length=p.length+1:=by rw[ju];omega
      have hlm:=jD p q 0 lp lq (by omega)
      have ht:=dQ (sumL p q 0) (by omega)
      rw[dU hlm,iS,Nat.add_zero]at ht
      rw[hz]
      generalize sumL p q 0=S at*
      (refine aa [] fun K hK=>?_;simp(disch:=omega) only[kc,ab,bO,Hm,aj,ai,bj];apply hK)
      refine ae (af rfl (fun h=>by simp at h<;>omega) (fun _=>bF ?_))
      show bX _ _ _ _
      (refine aa [] fun K hK=>?_;simp(disch:=omega) only[kc,ab,Nat.reduceAdd,aq,ao,ah,aD,bf,aj,Tryz.underlying88,bZ,e1,ag,an,aO,bL,aB,dr,bN,b8,fU,hg,cellsOf,Nat.le_refl,isPure,putCells,dy,hs,aH,aL];apply hK)
      refine bX.weak ((d4 19 (dL rfl)).trans (am (tm:=[jk,jk,jk,jk,jk,bO S,jk,jk,jk,jk,jk,jk,jk,jk,jk,jk,jk,jk,jk,jk,jk,jk,jk,jk,jk,jk,jk,jk,jk,jk,jk,jk,jk,jk,jk,jk,jk,jk,jk,jk,jk,jk,jk,jk,jk,jk,jk,jk,jk,jk,jk,jk,jk,jk,jk,jk,jk,jk,jk,jk,jk,jk,jk,jk,jk,jk,jk,jk,jk,jk,jk,jk,jk,jk,jk,jk,jk,jk,jk,jk,jk,jk,jk]) (l:=[]) trivial (by simp[cu,bD,bA,gR,eX,au,Hm,ew,d8,List.take_of_length_le,hsl]))) ?_
      (refine aa [⟨1,_,_,_,ht⟩] fun K hK=>?_;simp(disch:=omega) only[kc,bO,ar.a,ab,Nat.reduceAdd,Hm,ak,aT,aI,List.find?_cons,aQ,bo,CallRes.plain,aR,aV,az,noRefTV,ap,aS,aP];apply hK)
      (refine aE ⟨.inr rfl,aJ rfl ?_ rfl⟩;simp(disch:=omega) only[bK,Tryz.results121,aN,List.getElem?_cons_succ,List.getElem?_cons_zero,bO])
theorem my (m n:List Nat) (lm:Lmb m) (ln:Lmb n) (hl:n.length<=m.length) (hle:natV n<=natV m) (bm:m.length<=536870912):
  CallC Tryz.prog 122 [bO m,bO n] ⟨[],bO (aK (natV m-natV n))⟩:=by
 refine aC Tryz.func122 rfl (by kernel_rfl) ?_;rw[Tryz.ntmps122]
 (refine aa [] fun K hK=>?_;simp(disch:=omega) only[kc,ab,bO,Nat.reduceAdd,List.replicate,ac,Value.oneCell'];apply hK)
 (refine aa [] fun K hK=>?_;simp(disch:=omega) only[kc,ab,Nat.reduceAdd,aq,ao,ah,aD,ca,aT,aI,cp,aO,dz,Int.natCast_nonneg,Value.oneCell',and_true,iV,bL];apply hK)
 (refine aa [] fun K hK=>?_;simp(disch:=omega) only[kc,ab,ac,Value.oneCell'];apply hK)
 (refine ae (aa [] fun K hK=>?_);simp(disch:=omega) only[kc,ab,Nat.reduceAdd,aq,ao,ah,aD,ac,Value.oneCell'];apply hK)
 refine bT (G:=ET m n) (fun g=>⟨[bO m,bO n,jk,jk,jk,.one (.sl 11 0 0 m.length),.raw (.int .u64 (g.c:Int)),jk,jk,jk,jk,jk,jk,.raw (.int .i64 (m.length:Int)),.raw (.int .i64 (g.i:Int)),jk,jk,jk,jk,jk,jk,jk,jk,jk,jk,jk,jk,jk,jk,jk,jk,jk,jk,jk,jk,jk,jk,jk,jk,jk,jk,jk,jk,jk,jk],Hm [(11,[⟨118,1,lc fU (g.o++List.replicate (m.length-g.i) 0)⟩])]⟩) (fun g=>m.length-g.i) ⟨0,[],0,by omega,by omega,rfl,rfl⟩ ?_ ?_
 ·refine am ⟨?_,trivial⟩ ?_
  ·simp[au,Hm]
  ·simp[cu,bD,bA]
 ·rintro⟨i,o,c,hi,hc,ho,h⟩
  simp only
  by_cases hm:i<m.length
  ·obtain⟨a,ha⟩:=getElem?_of_lt hm
   have ha':=ct lm ha
   have hz:m.length-i=(m.length-i-1)+1:=by omega
   have hg:=mv o (m.length-i-1)
   rw[ho]at hg
   rw[hz]
   (refine aa [] fun K hK=>?_;simp(disch:=omega) only[kc,ab,bO,Hm,aj,ai,bE];apply hK)
   refine ae (af rfl (fun _=>ay ?_) (fun h=>by simp at h<;>omega))
   refine ae (aU ?_)
   (refine aa [] fun K hK=>?_;simp(disch:=omega) only[kc,ab];apply hK)
   (refine aa [] fun K hK=>?_;simp(disch:=omega) only[kc,ab,Nat.reduceAdd,ag,ao,an,ah,bI,ha,fU,aO,ax,bu,bf,aj,Tryz.underlying118,bP,cS,ai];apply hK)
   by_cases hn:i<n.length
   ·obtain⟨b,hb⟩:=getElem?_of_lt hn
    have hb':=ct ln hb
    have e1:IntKind.u32.wrap (IntKind.u64.wrap (IntKind.u64.wrap ((a:Int)-(c:Int))-(b:Int)))=(((a+8589934592-(c+b))%4294967296:Nat):Int):=by rw[IntKind.wrap_u32,IntKind.wrap_u64,IntKind.wrap_u64];omega
    have e2:Int.fdiv (IntKind.u64.wrap (IntKind.u64.wrap ((a:Int)-(c:Int))-(b:Int))) (2^(min 63 IntKind.u64.bits))=(((if a<c+b then 1 else 0):Nat):Int):=by
     rw[IntKind.wrap_u64,IntKind.wrap_u64]
     show Int.fdiv _ 9223372036854775808=_
     rw[Int.fdiv_eq_ediv_of_nonneg _ (by omega)]
     split<;>omega
    have hs:=kx o (m.length-i-1) ((a+8589934592-(c+b))%4294967296)
    rw[ho]at hs
    (refine ae (aa [] fun K hK=>?_);simp(disch:=omega) only[kc,ab,Nat.reduceAdd,aq,ao,ah,aD,aj,ai,bE];apply hK)
    refine af rfl (fun _=>?_) (fun h=>by simp at h<;>omega)
    ((refine aX [] [] (by simp) fun K hK=>?_);simp(disch:=omega) only[kc,ab,Nat.reduceAdd,ag,ao,an,ah,bI,hb,fU,aO,ax,bu,bf,aj,Tryz.underlying118,bP,cS,ai];apply hK)
    show bX _ _ _ _
    (refine aa [] fun K hK=>?_;simp(disch:=omega) only[kc,ab,Nat.reduceAdd,bf,aj,Tryz.underlying88,bZ,e1,ag,ao,an,ah,aO,bL,aB,dr,bN,b8,fU,hg,cellsOf,Nat.le_refl,isPure,putCells,dy,hs,aH,aL];apply hK)
    ((refine aX [] [] (by simp) fun K hK=>?_);simp(disch:=omega) only[kc,ab,Nat.reduceAdd,aj,ac,Value.oneCell',ai,Int.reduceLE,Int.reduceToNat,e2];apply hK)
    show bX _ _ _ _
    ((refine aX [] [] (by simp) fun K hK=>?_);simp(disch:=omega) only[kc,ab,aj,ac,Value.oneCell',ai,bC];apply hK)
    refine⟨⟨i+1,o++[(a+8589934592-(c+b))%4294967296],if a<c+b then 1 else 0,by omega,by split<;>omega,by simp[ho],?_⟩,by simp only;omega,am ⟨?_,trivial⟩ ?_⟩
    ·rw[<- h,dM ha,dM hb,diffL,List.append_assoc];rfl
    ·show _=[(⟨_,_,lc fU ((o++[(a+8589934592-(c+b))%4294967296])++List.replicate (m.length-(i+1)) 0)⟩:OObj)]
     rw[show m.length-(i+1)=m.length-i-1 by omega];rfl
    ·simp[cu,bD,bA]
   ·have e1:IntKind.u32.wrap (IntKind.u64.wrap ((a:Int)-(c:Int)))=(((a+8589934592-c)%4294967296:Nat):Int):=by rw[IntKind.wrap_u32,IntKind.wrap_u64];omega
    have e2:Int.fdiv (IntKind.u64.wrap ((a:Int)-(c:Int))) (2^(min 63 IntKind.u64.bits))=(((if a<c then 1 else 0):Nat):Int):=by
     rw[IntKind.wrap_u64]
     show Int.fdiv _ 9223372036854775808=_
     rw[Int.fdiv_eq_ediv_of_nonneg _ (by omega)]
     split<;>omega
    have hs:=kx o (m.length-i-1) ((a+8589934592-c)%4294967296)
    rw[ho]at hs
    (refine ae (aa [] fun K hK=>?_);simp(disch:=omega) only[kc,ab,Nat.reduceAdd,aq,ao,ah,aD,aj,ai,bj];apply hK)
    refine af rfl (fun h=>by simp at h<;>omega) (fun _=>ay ?_)
    show bX _ _ _ _
    (refine aa [] fun K hK=>?_;simp(disch:=omega) only[kc,ab,Nat.reduceAdd,bf,aj,Tryz.underlying88,bZ,e1,ag,ao,an,ah,aO,bL,aB,dr,bN,b8,fU,hg,cellsOf,Nat.le_refl,isPure,putCells,dy,hs,aH,aL];apply hK)
    ((refine aX [] [] (by simp) fun K hK=>?_);simp(disch:=omega) only[kc,ab,Nat.reduceAdd,aj,ac,Value.oneCell',ai,Int.reduceLE,Int.reduceToNat,e2];apply hK)
    show bX _ _ _ _
    ((refine aX [] [] (by simp) fun K hK=>?_);simp(disch:=omega) only[kc,ab,aj,ac,Value.oneCell',ai,bC];apply hK)
    refine⟨⟨i+1,o++[(a+8589934592-c)%4294967296],if a<c then 1 else 0,by omega,by split<;>omega,by simp[ho],?_⟩,by simp only;omega,am ⟨?_,trivial⟩ ?_⟩
    ·rw[<- h,dM ha,dA (by omega:n.length<=i),dA (by omega:n.length<=i+1),diffL,List.append_assoc];rfl
    ·show _=[(⟨_,_,lc fU ((o++[(a+8589934592-c)%4294967296])++List.replicate (m.length-(i+1)) 0)⟩:OObj)]
     rw[show m.length-(i+1)=m.length-i-1 by omega];rfl
    ·simp[cu,bD,bA]
  ·have hie:i=m.length:=by omega
   subst hie
   rw[dA (Nat.le_refl _),diffL,List.append_nil]at h
   rw[Nat.sub_self,List.replicate_zero,List.append_nil,h]
   have hsl:(diffL m n 0).length=m.length:=gE m n 0
   have hlm:=gu m n 0
   have hv:=fE m n 0 lm ln (by omega) hl (by omega)
   have ht:=dQ (diffL m n 0) (by omega)
   rw[dU hlm,show natV (diffL m n 0)=natV m-natV n by omega]at ht
   generalize diffL m n 0=S at*
   (refine aa [] fun K hK=>?_;simp(disch:=omega) only[kc,ab,bO,Hm,aj,ai,bj];apply hK)
   refine ae (af rfl (fun h=>by simp at h<;>omega) (fun _=>bF ?_))
   show bX _ _ _ _
   refine bX.weak ((d4 11 (dL rfl)).trans (am (tm:=[jk,jk,jk,jk,jk,bO S,jk,jk,jk,jk,jk,jk,jk,jk,jk,jk,jk,jk,jk,jk,jk,jk,jk,jk,jk,jk,jk,jk,jk,jk,jk,jk,jk,jk,jk,jk,jk,jk,jk,jk,jk,jk,jk,jk,jk]) (l:=[]) trivial (by simp[cu,bD,bA,gR,eX,au,Hm,ew,d8,List.take_of_length_le,hsl]))) ?_
   (refine aa [⟨1,_,_,_,ht⟩] fun K hK=>?_;simp(disch:=omega) only[kc,bO,ar.a,ab,Nat.reduceAdd,Hm,ak,aT,aI,List.find?_cons,aQ,bo,CallRes.plain,aR,aV,az,noRefTV,ap,aS,aP];apply hK)
   (refine aE ⟨.inr rfl,aJ rfl ?_ rfl⟩;simp(disch:=omega) only[bK,Tryz.results122,aN,List.getElem?_cons_succ,List.getElem?_cons_zero,bO])
end Go.Proofs.YtpgghglbpcabkaaGreat
