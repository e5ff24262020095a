/-
  Part 19 of a proof (walks and plain facts).
-/
import Derived.Test.YtpgghglbpcabkaaGreatP17
set_option linter.all false
set_option maxRecDepth 100000
set_option maxHeartbeats 64000000
namespace Go.Proofs.YtpgghglbpcabkaaGreat
open Go.RowKit
theorem sS {n:Nat} (f:Nat->Nat->Int) (hn1:1<=n) (hn:n<=8):mF (dp n n f)=decide ((detF n f).natAbs=1):=by
 rw[oX]
 by_cases h:(dk f n).natAbs=1
 ·rw[tQ ((o6 f hn1 hn).2 h)];simp[h]
 ·rw[lQ (fun h'=>h ((o6 f hn1 hn).1 h'))];simp[h]
theorem tR {n c:Nat} (f:Nat->Nat->Int) (hn:8<n):mF (dp n c f)=false:=lQ fun h=>by
 have:=h.2.2.1
 rw[ci]at this
 omega
theorem wg {n c:Nat} (f:Nat->Nat->Int) (hn1:1<=n) (hn:n≠c):mF (dp n c f)=false:=lQ fun h=>by
 have:=h.2.1
 rw[ci,gJ f hn1]at this
 omega
theorem Bq (n c:Nat) (f:Nat->Nat->Int) (hn1:1<=n) (hn:n<=16) (hc1:1<=c) (hc:c<=16) (hf: ∀i j,yX (f i j)):
  CallC Tryz.prog 7 [ey (dp n c f)] ⟨[],.raw (.bool (mF (dp n c f)))⟩:=by
 have hF:=tT n c f hn1 hn hc1 hc (fun i j _ _=>hf i j)
 have hml:=ci n c f
 by_cases h8:8<n
 ·rw[tR f h8]
  refine aC Tryz.func7 rfl (by kernel_rfl) ?_;rw[Tryz.ntmps7]
  (refine aa [] fun K hK=>?_;simp(disch:=omega) only[kc,ab,ey,List.replicate,ac,Value.oneCell'];apply hK)
  (refine aa [⟨1,_,_,_,hF⟩] fun K hK=>?_;simp(disch:=omega) only[kc,ey,yS,ar.a,ab,Nat.reduceAdd,ak,aT,aI,List.find?_cons,aQ,bo,CallRes.plain,aR,aV,az,noRefTV,ap,aS,aP,bz,aj];apply hK)
  (refine ae (aa [] fun K hK=>?_);simp(disch:=omega) only[kc,ab,Nat.reduceAdd,cX,aj,eA,aA,aq,ao,bi,aD,hml,ac,Value.oneCell',bL,ai,bE,aM];apply hK)
  refine af rfl (fun _=>?_) (fun h=>by simp at h<;>omega)
  (refine aa [] fun K hK=>?_;simp(disch:=omega) only[kc,ab,ac,Value.oneCell'];apply hK)
  (refine aE ⟨.inr rfl,aJ rfl ?_ rfl⟩;simp(disch:=omega) only[bK,Tryz.results7,aN,List.getElem?_cons_succ,List.getElem?_cons_zero])
 ·by_cases hnc:n=c
  ·subst hnc
   have hD:=Es n f hn1 hn (fun i j _ _=>(hf i j).sz (by omega))
   have hsz:=xo hn (fun i j _ _=>(hf i j).sz (k:=1024) (by omega))
   rw[sS f hn1 (by omega)]
   generalize detF n f=d at*
   have hI:=sX d (hsz.mono (by omega))
   unfold mG at hI
   by_cases hd1:d=1
   ·subst hd1
    rw[if_pos (by omega)]at hI
    refine aC Tryz.func7 rfl (by kernel_rfl) ?_;rw[Tryz.ntmps7]
    (refine aa [] fun K hK=>?_;simp(disch:=omega) only[kc,ab,ey,List.replicate,ac,Value.oneCell'];apply hK)
    (refine aa [⟨1,_,_,_,hF⟩] fun K hK=>?_;simp(disch:=omega) only[kc,ey,yS,ar.a,ab,Nat.reduceAdd,ak,aT,aI,List.find?_cons,aQ,bo,CallRes.plain,aR,aV,az,noRefTV,ap,aS,aP,bz,aj];apply hK)
    (refine ae (aa [] fun K hK=>?_);simp(disch:=omega) only[kc,ab,Nat.reduceAdd,cX,aj,eA,aA,aq,ao,bi,aD,hml,ac,Value.oneCell',bL,ai,bj,aM];apply hK)
    refine af rfl (fun h=>by simp at h<;>omega) (fun _=>ay ?_)
    show bX _ _ _ _
    (refine aa [⟨1,_,_,_,hD⟩] fun K hK=>?_;simp(disch:=omega) only[kc,em,kK,cZ,bj,ar.a,ab,Nat.reduceAdd,ak,aT,aI,List.find?_cons,aQ,bo,CallRes.plain,aR,aV,az,noRefTV,ap,aS,aP,bz,aj,bs,aZ,Value.oneCell',bL,aB,dr,bN,aF,au,cellsOf,Nat.le_refl,isPure,putCells,aH,aL];apply hK)
    (refine aa [⟨1,_,_,_,hI⟩] fun K hK=>?_;simp(disch:=omega) only[kc,tZ,bj,ar.a,ab,Nat.reduceAdd,ao,au,cH,ax,aF,aW,Nat.le_refl,ak,aT,aI,List.find?_cons,aQ,bo,CallRes.plain,aR,aV,az,isPure,noRefTV,ap,aS,aP,bz,aj];apply hK)
    (refine aa [] fun K hK=>?_;simp(disch:=omega) only[kc,ab,Nat.reduceAdd,aA,aj,ac,Value.oneCell',bL,ai,bE,reduceCtorEq,Option.map_none,aM];apply hK)
    (refine aE ⟨.inr rfl,aJ rfl ?_ rfl⟩;simp(disch:=omega) only[bK,Tryz.results7,aN,List.getElem?_cons_succ,List.getElem?_cons_zero,bE])
   ·by_cases hd2:d= -1
    ·subst hd2
     rw[if_pos (by omega)]at hI
     refine aC Tryz.func7 rfl (by kernel_rfl) ?_;rw[Tryz.ntmps7]
     (refine aa [] fun K hK=>?_;simp(disch:=omega) only[kc,ab,ey,List.replicate,ac,Value.oneCell'];apply hK)
     (refine aa [⟨1,_,_,_,hF⟩] fun K hK=>?_;simp(disch:=omega) only[kc,ey,yS,ar.a,ab,Nat.reduceAdd,ak,aT,aI,List.find?_cons,aQ,bo,CallRes.plain,aR,aV,az,noRefTV,ap,aS,aP,bz,aj];apply hK)
     (refine ae (aa [] fun K hK=>?_);simp(disch:=omega) only[kc,ab,Nat.reduceAdd,cX,aj,eA,aA,aq,ao,bi,aD,hml,ac,Value.oneCell',bL,ai,bj,aM];apply hK)
     refine af rfl (fun h=>by simp at h<;>omega) (fun _=>ay ?_)
     show bX _ _ _ _
     (refine aa [⟨1,_,_,_,hD⟩] fun K hK=>?_;simp(disch:=omega) only[kc,em,kK,cZ,bE,ar.a,ab,Nat.reduceAdd,ak,aT,aI,List.find?_cons,aQ,bo,CallRes.plain,aR,aV,az,noRefTV,ap,aS,aP,bz,aj,bs,aZ,Value.oneCell',bL,aB,dr,bN,aF,au,cellsOf,Nat.le_refl,isPure,putCells,aH,aL];apply hK)
     (refine aa [⟨1,_,_,_,hI⟩] fun K hK=>?_;simp(disch:=omega) only[kc,tZ,bE,ar.a,ab,Nat.reduceAdd,ao,au,cH,ax,aF,aW,Nat.le_refl,ak,aT,aI,List.find?_cons,aQ,bo,CallRes.plain,aR,aV,az,isPure,noRefTV,ap,aS,aP,bz,aj];apply hK)
     (refine aa [] fun K hK=>?_;simp(disch:=omega) only[kc,ab,Nat.reduceAdd,aA,aj,ac,Value.oneCell',bL,ai,reduceCtorEq,decide_false,bE,aM];apply hK)
     (refine aE ⟨.inr rfl,aJ rfl ?_ rfl⟩;simp(disch:=omega) only[bK,Tryz.results7,aN,List.getElem?_cons_succ,List.getElem?_cons_zero,bE])
    ·have hno:decide (d.natAbs=1)=false:=decide_eq_false (by omega)
     rw[hno]
     by_cases hfit: -9223372036854775808<=d/\d<=9223372036854775807
     ·rw[if_pos hfit]at hI
      refine aC Tryz.func7 rfl (by kernel_rfl) ?_;rw[Tryz.ntmps7]
      (refine aa [] fun K hK=>?_;simp(disch:=omega) only[kc,ab,ey,List.replicate,ac,Value.oneCell'];apply hK)
      (refine aa [⟨1,_,_,_,hF⟩] fun K hK=>?_;simp(disch:=omega) only[kc,ey,yS,ar.a,ab,Nat.reduceAdd,ak,aT,aI,List.find?_cons,aQ,bo,CallRes.plain,aR,aV,az,noRefTV,ap,aS,aP,bz,aj];apply hK)
      (refine ae (aa [] fun K hK=>?_);simp(disch:=omega) only[kc,ab,Nat.reduceAdd,cX,aj,eA,aA,aq,ao,bi,aD,hml,ac,Value.oneCell',bL,ai,bj,aM];apply hK)
      refine af rfl (fun h=>by simp at h<;>omega) (fun _=>ay ?_)
      show bX _ _ _ _
      (refine aa [⟨1,_,_,_,hD⟩] fun K hK=>?_;simp(disch:=omega) only[kc,em,kK,cZ,ar.a,ab,Nat.reduceAdd,ak,aT,aI,List.find?_cons,aQ,bo,CallRes.plain,aR,aV,az,noRefTV,ap,aS,aP,bz,aj,bs,aZ,Value.oneCell',bL,aB,dr,bN,aF,au,cellsOf,Nat.le_refl,isPure,putCells,aH,aL];apply hK)
      (refine aa [⟨1,_,_,_,hI⟩] fun K hK=>?_;simp(disch:=omega) only[kc,tZ,ar.a,ab,Nat.reduceAdd,ao,au,cH,ax,aF,aW,Nat.le_refl,ak,aT,aI,List.find?_cons,aQ,bo,CallRes.plain,aR,aV,az,isPure,noRefTV,ap,aS,aP,bz,aj];apply hK)
      (refine aa [] fun K hK=>?_;simp(disch:=omega) only[kc,ab,Nat.reduceAdd,aA,aj,ac,Value.oneCell',bL,ai,bj,aM];apply hK)
      (refine aE ⟨.inr rfl,aJ rfl ?_ rfl⟩;simp(disch:=omega) only[bK,Tryz.results7,aN,List.getElem?_cons_succ,List.getElem?_cons_zero])
     ·rw[if_neg hfit]at hI
      refine aC Tryz.func7 rfl (by kernel_rfl) ?_;rw[Tryz.ntmps7]
      (refine aa [] fun K hK=>?_;simp(disch:=omega) only[kc,ab,ey,List.replicate,ac,Value.oneCell'];apply hK)
      (refine aa [⟨1,_,_,_,hF⟩] fun K hK=>?_;simp(disch:=omega) only[kc,ey,yS,ar.a,ab,Nat.reduceAdd,ak,aT,aI,List.find?_cons,aQ,bo,CallRes.plain,aR,aV,az,noRefTV,ap,aS,aP,bz,aj];apply hK)
      (refine ae (aa [] fun K hK=>?_);simp(disch:=omega) only[kc,ab,Nat.reduceAdd,cX,aj,eA,aA,aq,ao,bi,aD,hml,ac,Value.oneCell',bL,ai,bj,aM];apply hK)
      refine af rfl (fun h=>by simp at h<;>omega) (fun _=>ay ?_)
      show bX _ _ _ _
      (refine aa [⟨1,_,_,_,hD⟩] fun K hK=>?_;simp(disch:=omega) only[kc,em,kK,cZ,ar.a,ab,Nat.reduceAdd,ak,aT,aI,List.find?_cons,aQ,bo,CallRes.plain,aR,aV,az,noRefTV,ap,aS,aP,bz,aj,bs,aZ,Value.oneCell',bL,aB,dr,bN,aF,au,cellsOf,Nat.le_refl,isPure,putCells,aH,aL];apply hK)
      (refine aa [⟨1,_,_,_,hI⟩] fun K hK=>?_;simp(disch:=omega) only[kc,tZ,ar.a,ab,Nat.reduceAdd,ao,au,cH,ax,aF,aW,Nat.le_refl,ak,aT,aI,List.find?_cons,aQ,bo,CallRes.plain,aR,aV,az,isPure,noRefTV,ap,aS,aP,bz,aj];apply hK)
      (refine aa [] fun K hK=>?_;simp(disch:=omega) only[kc,ab,Nat.reduceAdd,aA,aj,ac,Value.oneCell',bL,ai,bj,reduceCtorEq,decide_false,aM];apply hK)
      (refine aE ⟨.inr rfl,aJ rfl ?_ rfl⟩;simp(disch:=omega) only[bK,Tryz.results7,aN,List.getElem?_cons_succ,List.getElem?_cons_zero])
  ·rw[wg f hn1 hnc]
   have hD:=CG n c f hn1 hn hc1 hc hnc
   have hI:=sX 0 ((xm 1).mono (by omega))
   rw[mG,if_pos (by omega)]at hI
   refine aC Tryz.func7 rfl (by kernel_rfl) ?_;rw[Tryz.ntmps7]
   (refine aa [] fun K hK=>?_;simp(disch:=omega) only[kc,ab,ey,List.replicate,ac,Value.oneCell'];apply hK)
   (refine aa [⟨1,_,_,_,hF⟩] fun K hK=>?_;simp(disch:=omega) only[kc,ey,yS,ar.a,ab,Nat.reduceAdd,ak,aT,aI,List.find?_cons,aQ,bo,CallRes.plain,aR,aV,az,noRefTV,ap,aS,aP,bz,aj];apply hK)
   (refine ae (aa [] fun K hK=>?_);simp(disch:=omega) only[kc,ab,Nat.reduceAdd,cX,aj,eA,aA,aq,ao,bi,aD,hml,ac,Value.oneCell',bL,ai,bj,aM];apply hK)
   refine af rfl (fun h=>by simp at h<;>omega) (fun _=>ay ?_)
   show bX _ _ _ _
   (refine aa [⟨1,_,_,_,hD⟩] fun K hK=>?_;simp(disch:=omega) only[kc,em,kK,cZ,bj,ar.a,ab,Nat.reduceAdd,ak,aT,aI,List.find?_cons,aQ,bo,CallRes.plain,aR,aV,az,noRefTV,ap,aS,aP,bz,aj,bs,aZ,Value.oneCell',bL,aB,dr,bN,aF,au,cellsOf,Nat.le_refl,isPure,putCells,aH,aL];apply hK)
   (refine aa [⟨1,_,_,_,hI⟩] fun K hK=>?_;simp(disch:=omega) only[kc,tZ,bj,ar.a,ab,Nat.reduceAdd,ao,au,cH,ax,aF,aW,Nat.le_refl,ak,aT,aI,List.find?_cons,aQ,bo,CallRes.plain,aR,aV,az,isPure,noRefTV,ap,aS,aP,bz,aj];apply hK)
   (refine aa [] fun K hK=>?_;simp(disch:=omega) only[kc,ab,Nat.reduceAdd,aA,aj,ac,Value.oneCell',Option.map_none,aM];apply hK)
   (refine aE ⟨.inr rfl,aJ rfl ?_ rfl⟩;simp(disch:=omega) only[bK,Tryz.results7,aN,List.getElem?_cons_succ,List.getElem?_cons_zero])
theorem vN (M:List (List Int)) (hM:MI M):CallC Tryz.prog 7 [ey M] ⟨[],.raw (.bool (mF M))⟩:=by
 by_cases hs:sf M
 ·have e:=ri hs
  have h1:=hs.1
  have h2:=hs.2.1
  have h3:=hs.2.2 _ (List.mem_of_getElem? (fV hs.1))
  have hf:=fun i j=>hM.ent i j
  rw[e]
  exact Bq _ _ _ h1 h2 h3.1 h3.2.1 hf
 ·have hF:=rL M hs
  rw[lQ (fun h=>hs h.1)]
  refine aC Tryz.func7 rfl (by kernel_rfl) ?_;rw[Tryz.ntmps7]
  (refine aa [] fun K hK=>?_;simp(disch:=omega) only[kc,ab,ey,List.replicate,ac,Value.oneCell'];apply hK)
  (refine aa [⟨1,_,_,_,hF⟩] fun K hK=>?_;simp(disch:=omega) only[kc,ey,BL,ar.a,ab,Nat.reduceAdd,ak,aT,aI,List.find?_cons,aQ,bo,CallRes.plain,aR,aV,az,noRefTV,ap,aS,aP,bz,aj];apply hK)
  (refine ae (aa [] fun K hK=>?_);simp(disch:=omega) only[kc,ab,Nat.reduceAdd,cX,aj,eA,Bool.not_false,aA,reduceCtorEq,aq,ao,bi,Option.map_none,ac,Value.oneCell',aM];apply hK)
  refine af rfl (fun _=>?_) (fun h=>by simp at h)
  (refine aa [] fun K hK=>?_;simp(disch:=omega) only[kc,ab,ac,Value.oneCell'];apply hK)
  (refine aE ⟨.inr rfl,aJ rfl ?_ rfl⟩;simp(disch:=omega) only[bK,Tryz.results7,aN,List.getElem?_cons_succ,List.getElem?_cons_zero])
theorem A7 (n c:Nat) (f:Nat->Nat->Int) (hn1:1<=n) (hn:n<=16) (hc1:1<=c) (hc:c<=16) (hf: ∀i j,yX (f i j)):
  CallC Tryz.prog 8 [ey (dp n c f)] ⟨[],.raw (.bool (mF (dp n c f)))⟩:=by
 have hF:=uC n c f hn1 hn hc1 hc (fun i j _ _=>hf i j)
 have hml:=ci n c f
 by_cases h8:8<n
 ·rw[tR f h8]
  refine aC Tryz.func8 rfl (by kernel_rfl) ?_;rw[Tryz.ntmps8]
  (refine aa [] fun K hK=>?_;simp(disch:=omega) only[kc,ab,ey,List.replicate,ac,Value.oneCell'];apply hK)
  (refine aa [⟨1,_,_,_,hF⟩] fun K hK=>?_;simp(disch:=omega) only[kc,ey,yS,ar.a,ab,Nat.reduceAdd,ak,aT,aI,List.find?_cons,aQ,bo,CallRes.plain,aR,aV,az,noRefTV,ap,aS,aP,bz,aj];apply hK)
  (refine aa [] fun K hK=>?_;simp(disch:=omega) only[kc,ab,Nat.reduceAdd,aA,aq,ao,be,aD,hml,aj,ac,Value.oneCell',bL,ai,bj,aM,ak,aT,aI,List.find?_nil,aQ];apply hK)
  (refine aE ⟨.inr rfl,aJ rfl ?_ rfl⟩;simp(disch:=omega) only[bK,Tryz.results8,aN,List.getElem?_cons_succ,List.getElem?_cons_zero])
 ·by_cases hnc:n=c
  ·subst hnc
   have hU:=CX n f hn1 hn (fun i j _ _=>(hf i j).sz (by omega))
   rw[sS f hn1 (by omega),oX]
   generalize decide ((dk f n).natAbs=1)=b at*
   refine aC Tryz.func8 rfl (by kernel_rfl) ?_;rw[Tryz.ntmps8]
   (refine aa [] fun K hK=>?_;simp(disch:=omega) only[kc,ab,ey,List.replicate,ac,Value.oneCell'];apply hK)
   (refine aa [⟨1,_,_,_,hF⟩] fun K hK=>?_;simp(disch:=omega) only[kc,ey,yS,ar.a,ab,Nat.reduceAdd,ak,aT,aI,List.find?_cons,aQ,bo,CallRes.plain,aR,aV,az,noRefTV,ap,aS,aP,bz,aj];apply hK)
   (refine aa [⟨8,_,_,_,hU⟩] fun K hK=>?_;simp(disch:=omega) only[kc,em,ar.a,ab,Nat.reduceAdd,aA,aq,ao,be,aD,hml,aj,ac,Value.oneCell',bL,ai,bE,aM,ak,aT,aI,List.find?_cons,aQ,bo,CallRes.plain,aR,aV,az,noRefTV,ap,aS,aP];apply hK)
   (refine aE ⟨.inr rfl,aJ rfl ?_ rfl⟩;simp(disch:=omega) only[bK,Tryz.results8,aN,List.getElem?_cons_succ,List.getElem?_cons_zero])
  ·rw[wg f hn1 hnc]
   have hU:=zy n c f hn1 hnc
   refine aC Tryz.func8 rfl (by kernel_rfl) ?_;rw[Tryz.ntmps8]
   (refine aa [] fun K hK=>?_;simp(disch:=omega) only[kc,ab,ey,List.replicate,ac,Value.oneCell'];apply hK)
   (refine aa [⟨1,_,_,_,hF⟩] fun K hK=>?_;simp(disch:=omega) only[kc,ey,yS,ar.a,ab,Nat.reduceAdd,ak,aT,aI,List.find?_cons,aQ,bo,CallRes.plain,aR,aV,az,noRefTV,ap,aS,aP,bz,aj];apply hK)
   (refine aa [⟨8,_,_,_,hU⟩] fun K hK=>?_;simp(disch:=omega) only[kc,em,ar.a,ab,Nat.reduceAdd,aA,aq,ao,be,aD,hml,aj,ac,Value.oneCell',bL,ai,bE,aM,ak,aT,aI,List.find?_cons,aQ,bo,CallRes.plain,aR,aV,az,noRefTV,ap,aS,aP];apply hK)
   (refine aE ⟨.inr rfl,aJ rfl ?_ rfl⟩;simp(disch:=omega) only[bK,Tryz.results8,aN,List.getElem?_cons_succ,List.getElem?_cons_zero])
theorem A8 (M:List (List Int)) (hM:MI M):CallC Tryz.prog 8 [ey M] ⟨[],.raw (.bool (mF M))⟩:=by
 by_cases hs:sf M
 ·have e:=ri hs
  have h1:=hs.1
  have h2:=hs.2.1
  have h3:=hs.2.2 _ (List.mem_of_getElem? (fV hs.1))
  have hf:=fun i j=>hM.ent i j
  rw[e]
  exact A7 _ _ _ h1 h2 h3.1 h3.2.1 hf
 ·have hF:=sk M hs
  rw[lQ (fun h=>hs h.1)]
  refine aC Tryz.func8 rfl (by kernel_rfl) ?_;rw[Tryz.ntmps8]
  (refine aa [] fun K hK=>?_;simp(disch:=omega) only[kc,ab,ey,List.replicate,ac,Value.oneCell'];apply hK)
  (refine aa [⟨1,_,_,_,hF⟩] fun K hK=>?_;simp(disch:=omega) only[kc,ey,BL,ar.a,ab,Nat.reduceAdd,ak,aT,aI,List.find?_cons,aQ,bo,CallRes.plain,aR,aV,az,noRefTV,ap,aS,aP,bz,aj];apply hK)
  (refine aa [] fun K hK=>?_;simp(disch:=omega) only[kc,ab,Nat.reduceAdd,aA,aq,ao,be,Option.map_none,aj,ac,Value.oneCell',aM,ak,aT,aI,List.find?_nil,aQ];apply hK)
  (refine aE ⟨.inr rfl,aJ rfl ?_ rfl⟩;simp(disch:=omega) only[bK,Tryz.results8,aN,List.getElem?_cons_succ,List.getElem?_cons_zero])
def pP (i j:Nat) (c:Int) (f:Nat->Nat->Int):Nat->Nat->Int:=fun r b=>
 if i=j then(if c<0 then(if b=i then-f r i else f r b)else f r b)
 else if c=0 then(if b=i then f r j else if b=j then f r i else f r b)
 else if b=i then f r i+c*f r j else f r b
def gc (i j:Nat) (c:Int) (f:Nat->Nat->Int) (m:Nat):Nat->Nat->Int:=fun r b=>if r<m then pP i j c f r b else f r b
theorem y4 (i j:Nat) (c:Int) (f:Nat->Nat->Int):gc i j c f 0=f:=by funext r b;simp[gc]
theorem mn {i j:Nat} {c:Int} {f:Nat->Nat->Int} {m:Nat} (b:Nat):gc i j c f m m b=f m b:=by simp[gc]
theorem A5 {i j:Nat} {c:Int} {f:Nat->Nat->Int} {m r b:Nat} (h:r<m):gc i j c f m r b=pP i j c f r b:=by simp[gc,h]
def fF (L:List Int) (n:Nat):Nat->(Nat->Nat->Int)×Nat
 |0=>(fun i j=>if i=j then 1 else 0,0)
 |k+1=>
  let s:=fF L n k
  if s.2<L.length then(pP (nn L s.2 n) (nn L (cJ L s.2) n) (Int.tmod (L.getD (cJ L (cJ L s.2)) 0) 3) s.1,cJ L (cJ L (cJ L s.2)))else s
def mq (L:List Int) (n:Nat):Nat->Nat->Int:=(fF L n 12).1
theorem qh {L:List Int} {n k:Nat} (h: ¬(fF L n k).2<L.length): ∀m,fF L n (k+m)=fF L n k
 |0=>rfl
 |m+1=>by
  have ih:=qh h m
  rw[<- Nat.add_assoc,fF]
  rw[ih,if_neg h]
theorem Bl {L:List Int} {n k:Nat} (hk:k<=12) (h:k=12\/ ¬(fF L n k).2<L.length):(fF L n k).1=mq L n:=by
 unfold mq
 rcases h with rfl|h
 ·rfl
 ·have:=qh h (12-k)
  rw[show k+(12-k)=12 by omega]at this
  rw[this]
theorem xw (L:List Int) (n:Nat): ∀k,(fF L n k).2<=L.length
 |0=>Nat.zero_le _
 |k+1=>by
  have ih:=xw L n k
  rw[fF]
  split
  ·exact gF (gF (gF ih))
  ·exact ih
theorem DQ {i j:Nat} {c:Int} {f:Nat->Nat->Int} {B:Nat} (hc: -2<=c/\c<=2) (h: ∀a b,(f a b).natAbs<=B) (a b:Nat):(pP i j c f a b).natAbs<=3*B:=by
 have h1:=h a b
 have h2:=h a i
 have h3:=h a j
 unfold pP
 split
 ·split
  ·split<;>omega
  ·omega
 ·split
  ·split
   ·omega
   ·split<;>omega
  ·split
   ·have:c= -2\/c= -1\/c=1\/c=2:=by omega
    rcases this with rfl|rfl|rfl|rfl<;>omega
   ·omega
theorem zU (x:Int): -2<=Int.tmod x 3/\Int.tmod x 3<=2:=by
 have h1:=Int.tmod_lt_of_pos x (show(0:Int)<3 by omega)
 have h2:=Int.lt_tmod_of_pos x (show(0:Int)<3 by omega)
 omega
theorem wV (L:List Int) (n:Nat): ∀k a b,((fF L n k).1 a b).natAbs<=3^k
 |0,a,b=>by
  rw[fF]
  show(if a=b then(1:Int)else 0).natAbs<=3^0
  split<;>simp
 |k+1,a,b=>by
  have ih:=wV L n k
  rw[fF]
  split
  ·have:=DQ (i:=nn L (fF L n k).2 n) (j:=nn L (cJ L (fF L n k).2) n) (zU (L.getD (cJ L (cJ L (fF L n k).2)) 0)) ih a b
   exact Nat.le_trans this (by rw[Nat.pow_succ];omega)
  ·have:=ih a b
   exact Nat.le_trans this (by rw[Nat.pow_succ];omega)
theorem pe (L:List Int) (n:Nat) {k:Nat} (hk:k<=12) (a b:Nat): -531441<=(fF L n k).1 a b/\(fF L n k).1 a b<=531441:=by
 have h1:=wV L n k a b
 have h2:3^k<=3^12:=Nat.pow_le_pow_right (by omega) hk
 rw[show 3^12=531441 from rfl]at h2
 omega
theorem D5 {i j n:Nat} (c:Int) (f:Nat->Nat->Int) (hi:i<n) (hj:j<n):(dk (pP i j c f) n).natAbs=(dk f n).natAbs:=by
 by_cases e:i=j
 ·by_cases hc:c<0
  ·have h:pP i j c f=fm f i (fun r=> - f r i):=by
    funext r b;unfold pP fm;rw[if_pos e,if_pos hc]
   rw[h,qO hi,Int.natAbs_neg]
  ·have h:pP i j c f=f:=by
    funext r b;unfold pP;rw[if_pos e,if_neg hc]
   rw[h]
 ·by_cases hc:c=0
  ·have h:pP i j c f=fun r b=>if b=i then f r j else if b=j then f r i else f r b:=by
    funext r b;unfold pP;rw[if_neg e,if_pos hc]
   rw[h,vq hi hj e,Int.natAbs_neg]
  ·have h:pP i j c f=fm f i (fun r=>f r i+c*f r j):=by
    funext r b;unfold pP fm;rw[if_neg e,if_neg hc]
   rw[h,kd hi hj e]
theorem wn (L:List Int) {n:Nat} (hn:0<n): ∀k,(dk (fF L n k).1 n).natAbs=1
 |0=>by rw[fF,DK];rfl
 |k+1=>by
  have ih:=wn L hn k
  rw[fF]
  split
  ·rw[D5 _ _ (ny _ _ hn) (ny _ _ hn),ih]
  ·exact ih
theorem Cb (L:List Int) {n:Nat} (hn:0<n):(dk (mq L n) n).natAbs=1:=wn L hn 12
theorem vu (L:List Int) (n a b:Nat): -531441<=mq L n a b/\mq L n a b<=531441:=pe L n (Nat.le_refl 12) a b
section
section
variable {P:Program} {b:Nat} {ty:TypeId} {cs cs':List PV} {Q:Exit->AS->List PV->Prop} {s:AS}
theorem nS {w0:World} {O X:Nat->Prop} (items:List (ar P)) (it:dN P) {ow:List Nat} {ops:Array Oper} (hL:eC ops it.i=true) (hF:items.all (fun c=>c.i !=it.i)=true) (hraw:it.args.all aR=true) (hcon:g9 P b ty it.f it.args cs it.res cs') {Q:Exit->Act->World->Prop} {suf:List Nat}:
  ∀(l:List Oper) (k:Nat) (s s':AS) (a:Act) (w:World),(∀(j:Nat) o,l[j]?=some o->ops[k+j]?=some o)->iz P (items.map ar.a++[it]) ow ops (l.zipIdx k) s=some s'->fb b ty w0 O X s (if k<=it.i then cs else cs') a w->
   (∀a' w',fb b ty w0 O X s' (if k+l.length<=it.i then cs else cs') a' w'->wpOps P ops Q suf a' w')->wpOps P ops Q (List.range' k l.length++suf) a w
 |[],k,s,s',a,w,_,h,r,hQ=>by
  simp only[List.zipIdx_nil,iz]at h
  injection h with h
  subst h
  exact hQ a w r
 |o::l,k,s,s',a,w,hl,h,r,hQ=>by
  simp only[List.zipIdx_cons,iz]at h
  split at h
  ·rename_i s1 hs1
   simp only[List.length_cons,List.range'_succ,List.cons_append,wpOps]
   have ho:ops[k]?=some o:=by have:=hl 0 o rfl;simpa using this
   rw[ho]
   simp only
   have:=mi (Q:=Q) items it ho hL hF hraw hcon (x:=if k<=it.i then cs else cs') (fun hk=>if_pos (by omega)) r hs1 (K:=wpOps P ops Q (List.range' (k+1) l.length++suf)) (fun v w' hr=>nS items it hL hF hraw hcon l (k+1) s1 s' _ _ (fun j o hj=>by have:=hl (j+1) o (by simpa using hj);rwa[show k+(j+1)=k+1+j by omega]at this) h (by
    have e:(if k=it.i then cs' else if k<=it.i then cs else cs')=if k+1<=it.i then cs else cs':=by
     by_cases h1:k=it.i
     ·rw[if_pos h1,if_neg (by omega)]
     ·rw[if_neg h1]
      by_cases h2:k<=it.i
      ·rw[if_pos h2,if_pos (by omega)]
      ·rw[if_neg h2,if_neg (by omega)]
    rw[e]at hr
    exact hr) (fun a' w' hr'=>hQ a' w' (by rw[List.length_cons,show k+(l.length+1)=k+1+l.length by omega];exact hr')))
   split at this
   ·rename_i hw;rw[if_pos hw];exact .inl this
   ·rename_i hw;rw[if_neg hw];exact this
  ·cases h
theorem yF (m1 m2:Nat) {f1 f2:FuncId} {args1 args2:List TV} {res1 res2:CallRes} {cs1 cs2:List PV} (hcon1:g9 P b ty f1 args1 cs res1 cs1) (hcon2:g9 P b ty f2 args2 cs1 res2 cs2) (items:List (ar P)) (ow:List Nat) {id:Nat} {ops:Array Oper}
  (hL1:eC ops m1=true) (hL2:eC ops m2=true) (hF1:items.all (fun c=>c.i !=m1)=true) (hF2:items.all (fun c=>c.i !=m2)=true) (hraw1:args1.all aR=true) (hraw2:args2.all aR=true) (hm:m1<m2) (hl:s.tmps.length<=1000000)
  (h:dS P (items.map ar.a++[⟨m1,f1,args1,res1⟩]) ow (cY ops (ops.toList.take (m1+1)) 0) (some s) (fun s1=>s1.tmps.length<=1000000/\dS P (items.map ar.a++[⟨m2,f2,args2,res2⟩]) ow (cY ops (ops.toList.drop (m1+1)) (m1+1)) (some s1) (fun s'=>Q .normal s' cs2))):gh P b ty (.region id ops false) Q s cs:=fun w0 O X a w r=>by
 obtain⟨s1,h1,hl1,h2⟩:=dw P _ ow ops _ 0 s _ hl h
 obtain⟨s',h3,h4⟩:=dw P _ ow ops _ (m1+1) s1 _ hl1 h2
 refine wp_region ?_
 have hlt: ∀{m},eC ops m=true->m<ops.size:=fun{m} hL=>by
  unfold eC at hL
  split at hL
  ·rename_i o ho;exact(Array.getElem?_eq_some_iff.1 ho).1
  ·cases hL
 have hm1:=hlt hL1
 have hm2:=hlt hL2
 have hml:(ops.toList.take (m1+1)).length=m1+1:=by rw[List.length_take];simp;omega
 have hsz:ops.size=(ops.toList.take (m1+1)).length+(ops.toList.drop (m1+1)).length:=by rw[hml,List.length_drop];simp;omega
 rw[hsz,List.range_eq_range',<- List.range'_append_1,Nat.zero_add]
 refine nS (w0:=w0) (O:=O) (X:=X) items ⟨m1,f1,args1,res1⟩ hL1 hF1 hraw1 hcon1 (Q:=fun e a' w'=> ∃s' k,Q e s' k/\fb b ty w0 O X s' k a' w') (ops.toList.take (m1+1)) 0 s s1 a w (fun j o hj=>?_) h1 (by simpa using r) fun a' w' hr=>?_
 ·rw[List.getElem?_take]at hj
  split at hj
  ·simpa using hj
  ·cases hj
 ·rw[if_neg (by rw[hml];simp)]at hr
  rw[hml]
  refine md (w0:=w0) (O:=O) (X:=X) items ⟨m2,f2,args2,res2⟩ hL2 hF2 hraw2 hcon2 (Q:=fun e a' w'=> ∃s' k,Q e s' k/\fb b ty w0 O X s' k a' w') (ops.toList.drop (m1+1)) (m1+1) s1 s' a' w' (fun j o hj=>?_) h3 ?_ (fun a' w' hr=>⟨s',cs2,h4,?_⟩)
  ·rw[List.getElem?_drop]at hj
   simpa using hj
  ·rw[if_pos (show m1+1<=m2 by omega)];exact hr
  ·rw[if_neg (by rw[List.length_drop];simp;omega)]at hr
   exact hr
theorem uS (m1 m2:Nat) {f1 f2:FuncId} {args1 args2:List TV} {res1 res2:CallRes} {cs1 cs2:List PV} (hcon1:g9 P b ty f1 args1 cs res1 cs1) (hcon2:g9 P b ty f2 args2 cs1 res2 cs2) (items:List (ar P)) (ow:List Nat) {id:Nat} {ops:Array Oper} {y:Code}
  (hL1:eC ops m1=true) (hL2:eC ops m2=true) (hF1:items.all (fun c=>c.i !=m1)=true) (hF2:items.all (fun c=>c.i !=m2)=true) (hraw1:args1.all aR=true) (hraw2:args2.all aR=true) (hm:m1<m2) (hl:s.tmps.length<=1000000)
  (h: ∀K:AS->Prop,(∀s1,(s1.tmps.length<=1000000/\ ∀K:AS->Prop,(∀s',gh P b ty y Q s' cs2->K s')->dS P (items.map ar.a++[⟨m2,f2,args2,res2⟩]) ow (cY ops (ops.toList.drop (m1+1)) (m1+1)) (some s1) K)->K s1)->dS P (items.map ar.a++[⟨m1,f1,args1,res1⟩]) ow (cY ops (ops.toList.take (m1+1)) 0) (some s) K):gh P b ty (.seq (.region id ops false) y) Q s cs:=
 eL (yF m1 m2 hcon1 hcon2 items ow hL1 hL2 hF1 hF2 hraw1 hraw2 hm hl (h _ fun s1 ⟨q1,q2⟩=>⟨q1,q2 _ fun _ h=>h⟩))
end
theorem zd {w0:World} {O X:Nat->Prop} {a:Act} {w:World} {s:AS} (d:Nat) {ty:TypeId} {cs:List PV} (hd:s.H d=[⟨ty,cs.length,[cs.map AV.p]⟩]) (r:fM w0 O X s a w):
  ∃b,(w0.heap.size<=b\/O b)/\ ¬X b/\fb b ty w0 (fun j=>O j\/j=b) (fun j=>X j\/j=b) ⟨s.tmps.map (vy d b),au s.H d []⟩ cs a w:=by
 obtain⟨h1,hsz,ρ,hinv,htm⟩:=r
 have htm:cn X ρ s a w:=htm
 have hget:(s.H d)[0]?=some ⟨ty,cs.length,[cs.map AV.p]⟩:=by rw[hd];rfl
 obtain⟨z1,z2,z3⟩:=hinv.objs d 0 _ hget
 cases hρ:ρ d 0 with
 |none=>rw[hρ]at z3;cases z3
 |some bc=>
  obtain⟨b,n⟩:=bc
  rw[hρ]at z3
  obtain⟨cells,p1,p2,p3,p4,p5⟩:=z3
  have hold:=hinv.old d 0 _ b n hget hρ
  have hna: ∀(x y:Nat) o,(au s.H d [] x)[y]?=some o->x≠d/\(s.H x)[y]?=some o:=fun x y o ho=>by
   by_cases hx:x=d
   ·subst hx;rw[bV]at ho;simp at ho
   ·rw[bv hx]at ho;exact⟨hx,ho⟩
  have hXo: ∀j,Xo (fun j=>X j\/j=b) ρ (au s.H d []) j->Xo X ρ s.H j:=fun j hj=>by
   rcases hj with(hj|rfl)|⟨x,y,o,n',g1,g2⟩
   ·exact .inl hj
   ·exact .inr ⟨d,0,_,n,hget,hρ⟩
   ·exact .inr ⟨x,y,o,n',(hna x y o g1).2,g2⟩
  have hmap: ∀x v,AV.rel ρ s.H (Xo X ρ s.H) w x v->AV.rel ρ (au s.H d []) (Xo (fun j=>X j\/j=b) ρ (au s.H d [])) w (jq d b x) v:=fun x v hx=>by
   cases x with
   |p x=>exact cO.weaken (fun j _ hj=>hXo j hj) hx
   |sl x r off len=>
    simp only[jq]
    split
    ·trivial
    ·rename_i hxd
     obtain⟨o,g1,g2⟩:=hx
     exact⟨o,by rw[bv hxd];exact g1,g2⟩
   |ptr x r i j=>
    simp only[jq]
    split
    ·rename_i hxd
     subst hxd
     split
     ·rename_i hc
      obtain⟨rfl,rfl,rfl⟩:=hc
      obtain⟨o,b',c',g1,g2,g3,g4⟩:=hx
      rw[hρ]at g2
      injection g2 with g2
      injection g2 with g2 g2'
      subst g2
      rw[g4]
      simp only[Nat.zero_mul,Nat.add_zero]
      exact cO.raw _ rfl
     ·trivial
    ·rename_i hxd
     obtain⟨o,b',c',g1,g2⟩:=hx
     exact⟨o,b',c',by rw[bv hxd];exact g1,g2⟩
   |junk=>trivial
  have hagg: ∀cs v,cE ρ s.H (Xo X ρ s.H) w cs v->cE ρ (au s.H d []) (Xo (fun j=>X j\/j=b) ρ (au s.H d [])) w (cs.map (jq d b)) v:=fun cs v ⟨vs,g1,g2,g3⟩=>by
   refine⟨vs,g1,by simpa using g2,fun j x hx=>?_⟩
   rw[List.getElem?_map]at hx
   obtain⟨y,hy,rfl⟩:=Option.map_eq_some_iff.1 hx
   obtain⟨u,u1,u2,u3⟩:=g3 j y hy
   exact⟨u,u1,u2,hmap y u u3⟩
  have hrel:fb b ty w0 (fun j=>O j\/j=b) (fun j=>X j\/j=b) ⟨s.tmps.map (vy d b),au s.H d []⟩ cs a w:=by
   refine⟨h1,by simpa using hsz,ρ,⟨⟨hinv.keep.os,hinv.keep.tape,hinv.keep.output,hinv.keep.size,fun k hk hn=>hinv.keep.block k hk (fun h=>hn (.inl h))⟩,fun x y o ho=>?_,fun x y x' y' o o' j c c' ho ho'=>hinv.inj x y x' y' o o' j c c' (hna x y o ho).2 (hna x' y' o' ho').2,fun x y o j c ho hj=>?_,fun j hj=>?_,fun x y o ho=>hinv.self x y o (hna x y o ho).2⟩,fun t x hx=>?_,.inr rfl,.inr rfl,?_⟩
   ·obtain⟨hxd,ho'⟩:=hna x y o ho
    obtain⟨q1,q2,q3⟩:=hinv.objs x y o ho'
    refine⟨q1,q2,?_⟩
    cases hr:ρ x y with
    |none=>rw[hr]at q3;exact q3
    |some bc=>
     obtain⟨b',c'⟩:=bc
     rw[hr]at q3
     obtain⟨cells',r1,r2,r3,r4,r5⟩:=q3
     refine⟨cells',r1,r2,r3,r4,fun i e j z he hz=>?_⟩
     obtain⟨u,u1,u2,u3⟩:=r5 i e j z he hz
     have hs:=hinv.self x y o ho' e (List.mem_of_getElem? he) z (List.mem_of_getElem? hz)
     have:=hmap z u u3
     refine⟨u,u1,u2,?_⟩
     cases z with
     |sl z _ _ _=>have hs:z=x:=hs;subst hs;simpa[jq,hxd] using this
     |ptr z _ _ _=>have hs:z=x:=hs;subst hs;simpa[jq,hxd] using this
     |p z=>exact this
     |junk=>trivial
   ·obtain⟨hxd,ho'⟩:=hna x y o ho
    obtain⟨g1,g2⟩:=hinv.old x y o j c ho' hj
    refine⟨?_,?_⟩
    ·rcases g1 with g|g
     ·exact .inl g
     ·exact .inr (.inl g)
    ·rintro(g|rfl)
     ·exact g2 g
     ·exact hxd (hinv.inj x y d 0 o _ j c n ho' hget hj hρ).1
   ·rcases hj with hj|rfl
    ·exact hinv.bar j hj
    ·exact(Array.getElem?_eq_some_iff.1 p1).1
   ·simp only[List.getElem?_map]at hx
    obtain⟨y,hy,rfl⟩:=Option.map_eq_some_iff.1 hx
    obtain⟨v,v1,v2⟩:=htm t y hy
    refine⟨v,v1,?_⟩
    cases y with
    |one x=>exact hmap x v v2
    |agg cs=>exact hagg cs v v2
    |fn f cs=>obtain⟨u,h1,h2⟩:=v2;exact⟨u,hagg cs u h1,h2⟩
    |tup ts=>
     obtain⟨vs,g1,g2,g3⟩:=v2
     refine⟨vs,g1,by simpa using g2,fun j c cs hj=>?_⟩
     rw[List.getElem?_map]at hj
     obtain⟨z,hz,hzz⟩:=Option.map_eq_some_iff.1 hj
     obtain⟨c',cs'⟩:=z
     simp at hzz
     obtain⟨rfl,rfl⟩:=hzz
     obtain⟨u,u1,u2⟩:=g3 j c' cs' hz
     refine⟨u,u1,?_⟩
     rcases u2 with⟨u2,u3⟩|⟨u2,q',rfl,u4⟩
     ·exact .inl ⟨u2,hagg _ _ u3⟩
     ·exact .inr ⟨u2,_,rfl,hmap _ _ u4⟩
   ·refine⟨cells,n,p1,p2,by simpa using p3,p4,z2,fun j x hx=>?_⟩
    obtain⟨v,v1,v2,v3⟩:=p5 0 (cs.map AV.p) j (.p x) rfl (by rw[List.getElem?_map,hx];rfl)
    exact⟨v,by simpa using v1,v2,cO.weaken (fun j _ hj=>hXo j hj) v3⟩
  exact⟨b,hold.1,hold.2,hrel⟩
def tS (d b:Nat):AV->AV
 | .p (.raw (.pointer (some ⟨b',0,none⟩)))=>if b'=b then .ptr d 0 0 0 else .p (.raw (.pointer (some ⟨b',0,none⟩)))
 |x=>x
def DI (d b:Nat):TV->TV
 | .one x=> .one (tS d b x)
 | .agg cs=> .agg (cs.map (tS d b))
 | .fn f cs=> .fn f (cs.map (tS d b))
 | .tup ts=> .tup (ts.map fun t=>(t.1,t.2.map (tS d b)))
theorem AG {w0:World} {O X:Nat->Prop} {a:Act} {w:World} {s:AS} {b d:Nat} {ty:TypeId} {cs:List PV} (hold:w0.heap.size<=b\/O b) (hnX: ¬X b) (hd:s.H d=[]) (r:fb b ty w0 (fun j=>O j\/j=b) (fun j=>X j\/j=b) s cs a w):
  fM w0 O X ⟨s.tmps.map (DI d b),au s.H d [⟨ty,cs.length,[cs.map AV.p]⟩]⟩ a w:=by
 obtain⟨k1,ksz,ρ,kinv,ktm,_,_,cells,n,p1,p2,p3,p4,p5,p6⟩:=r
 have ktm:cn (fun j=>X j\/j=b) ρ s a w:=ktm
 generalize hρ2:newρ ρ d (fun r=>if r=0 then some (b,n)else none)=ρ2
 generalize hH2:au s.H d [⟨ty,cs.length,[cs.map AV.p]⟩]=H2
 have hd2:H2 d=[⟨ty,cs.length,[cs.map AV.p]⟩]:=by rw[<- hH2,bV]
 have hne2: ∀x,x≠d->H2 x=s.H x:=fun x hx=>by rw[<- hH2,bv hx]
 have hrd: ∀r,ρ2 d r=if r=0 then some (b,n)else none:=fun r=>by rw[<- hρ2,newρ_eq]
 have hrn: ∀x r,x≠d->ρ2 x r=ρ x r:=fun x r hx=>by rw[<- hρ2,newρ_ne hx]
 have hone: ∀(y:Nat) o,(H2 d)[y]?=some o->y=0/\o=⟨ty,cs.length,[cs.map AV.p]⟩:=fun y o ho=>by
  rw[hd2]at ho
  match y,ho with
  |0,ho=>exact⟨rfl,by simpa using ho.symm⟩
  |y+1,ho=>simp at ho
 have hXo: ∀j,Xo X ρ2 H2 j->Xo (fun j=>X j\/j=b) ρ s.H j:=fun j hj=>by
  rcases hj with hj|⟨x,y,o,c,g1,g2⟩
  ·exact .inl (.inl hj)
  ·by_cases hx:x=d
   ·subst hx
    obtain⟨rfl,_⟩:=hone y o g1
    rw[hrd,if_pos rfl]at g2
    injection g2 with g2
    injection g2 with g2
    exact .inl (.inr g2.symm)
   ·rw[hne2 x hx]at g1
    rw[hrn x y hx]at g2
    exact .inr ⟨x,y,o,c,g1,g2⟩
 have kmap: ∀x v,AV.rel ρ s.H (Xo (fun j=>X j\/j=b) ρ s.H) w x v->AV.rel ρ2 H2 (Xo X ρ2 H2) w x v:=fun x v hx=>by
  cases x with
  |p x=>exact cO.weaken (fun j _ hj=>hXo j hj) hx
  |sl x r off len=>
   obtain⟨o,g1,g2⟩:=hx
   have hxd:x≠d:=by rintro rfl;rw[hd]at g1;simp at g1
   exact⟨o,by rw[hne2 x hxd];exact g1,by rw[hrn x r hxd];exact g2⟩
  |ptr x r i j=>
   obtain⟨o,b',c,g1,g2,g3⟩:=hx
   have hxd:x≠d:=by rintro rfl;rw[hd]at g1;simp at g1
   exact⟨o,b',c,by rw[hne2 x hxd];exact g1,by rw[hrn x r hxd];exact g2,g3⟩
  |junk=>trivial
 have kmapB: ∀x v,AV.rel ρ s.H (Xo (fun j=>X j\/j=b) ρ s.H) w x v->AV.rel ρ2 H2 (Xo X ρ2 H2) w (tS d b x) v:=fun x v hx=>by
  unfold tS
  split
  ·split
   ·rename_i hb
    subst hb
    obtain⟨rfl,_⟩:=cW (ρ:=ρ) (H:=s.H) hx
    exact⟨⟨ty,cs.length,[cs.map AV.p]⟩,_,n,by rw[hd2];rfl,by rw[hrd,if_pos rfl],by simp,by simp⟩
   ·exact kmap _ _ hx
  ·exact kmap _ _ hx
 have hagg: ∀cs v,cE ρ s.H (Xo (fun j=>X j\/j=b) ρ s.H) w cs v->cE ρ2 H2 (Xo X ρ2 H2) w (cs.map (tS d b)) v:=fun cs v ⟨vs,g1,g2,g3⟩=>by
  refine⟨vs,g1,by simpa using g2,fun j x hx=>?_⟩
  rw[List.getElem?_map]at hx
  obtain⟨y,hy,rfl⟩:=Option.map_eq_some_iff.1 hx
  obtain⟨u,u1,u2,u3⟩:=g3 j y hy
  exact⟨u,u1,u2,kmapB y u u3⟩
 refine⟨k1,by simpa using ksz,ρ2,⟨⟨kinv.keep.os,kinv.keep.tape,kinv.keep.output,kinv.keep.size,fun k hk hn=>?_⟩,fun x y o ho=>?_,fun x y x' y' o o' j c c' ho ho' hj hj'=>?_,fun x y o j c ho hj=>?_,fun j hj=>kinv.bar j (.inl hj),fun x y o ho=>?_⟩,fun t x hx=>?_⟩
 ·by_cases hkb:k=b
  ·subst hkb
   exfalso
   rcases hold with g|g
   ·omega
   ·exact hn g
  ·exact kinv.keep.block k hk (fun hh=>by
    rcases hh with hh|hh
    ·exact hn hh
    ·exact hkb hh)
 ·by_cases hx:x=d
  ·subst hx
   obtain⟨rfl,rfl⟩:=hone y o ho
   refine⟨fun e he=>by simp at he;subst he;simp,p5,?_⟩
   rw[hrd,if_pos rfl]
   refine⟨cells,p1,p2,by simpa using p3,p4,fun i e j z he hz=>?_⟩
   match i,he with
   |0,he=>
    simp at he
    subst he
    rw[List.getElem?_map]at hz
    obtain⟨y,hy,rfl⟩:=Option.map_eq_some_iff.1 hz
    obtain⟨v,v1,v2,v3⟩:=p6 j y hy
    exact⟨v,by simpa using v1,v2,cO.weaken (fun j _ hj=>hXo j hj) v3⟩
   |i+1,he=>simp at he
  ·replace ho:(H2 x)[y]?=some o:=ho
   rw[hne2 x hx]at ho
   exact dV (kinv.objs x y o ho) (hrn x y hx) (fun _ _ _=>rfl) kmap
 ·by_cases hx:x=d
  ·subst hx
   obtain⟨rfl,_⟩:=hone y o ho
   rw[hrd,if_pos rfl]at hj
   injection hj with hj
   injection hj with hj _
   subst hj
   by_cases hx':x'=x
   ·subst hx'
    obtain⟨rfl,_⟩:=hone y' o' ho'
    exact⟨rfl,rfl⟩
   ·replace ho':(H2 x')[y']?=some o':=ho'
    rw[hne2 x' hx']at ho'
    rw[hrn x' y' hx']at hj'
    exact absurd (.inr rfl) (kinv.old x' y' o' _ c' ho' hj').2
  ·replace ho:(H2 x)[y]?=some o:=ho
   rw[hne2 x hx]at ho
   rw[hrn x y hx]at hj
   by_cases hx':x'=d
   ·subst hx'
    obtain⟨rfl,_⟩:=hone y' o' ho'
    rw[hrd,if_pos rfl]at hj'
    injection hj' with hj'
    injection hj' with hj' _
    subst hj'
    exact absurd (.inr rfl) (kinv.old x y o _ c ho hj).2
   ·replace ho':(H2 x')[y']?=some o':=ho'
    rw[hne2 x' hx']at ho'
    rw[hrn x' y' hx']at hj'
    exact kinv.inj x y x' y' o o' j c c' ho ho' hj hj'
 ·by_cases hx:x=d
  ·subst hx
   obtain⟨rfl,_⟩:=hone y o ho
   rw[hrd,if_pos rfl]at hj
   injection hj with hj
   injection hj with hj _
   subst hj
   exact⟨hold,hnX⟩
  ·replace ho:(H2 x)[y]?=some o:=ho
   rw[hne2 x hx]at ho
   rw[hrn x y hx]at hj
   obtain⟨g1,g2⟩:=kinv.old x y o j c ho hj
   refine⟨?_,fun hx=>g2 (.inl hx)⟩
   rcases g1 with g|g|g
   ·exact .inl g
   ·exact .inr g
   ·exact absurd (.inr g) g2
 ·by_cases hx:x=d
  ·subst hx
   obtain⟨_,rfl⟩:=hone y o ho
   intro e he z hz
   simp at he
   subst he
   obtain⟨q,_,rfl⟩:=List.mem_map.1 hz
   trivial
  ·replace ho:(H2 x)[y]?=some o:=ho
   rw[hne2 x hx]at ho
   exact kinv.self x y o ho
 ·simp only[List.getElem?_map]at hx
  obtain⟨y,hy,rfl⟩:=Option.map_eq_some_iff.1 hx
  obtain⟨v,v1,v2⟩:=ktm t y hy
  refine⟨v,v1,?_⟩
  cases y with
  |one x=>exact kmapB x v v2
  |agg cs=>exact hagg cs v v2
  |fn f cs=>obtain⟨u,h1,h2⟩:=v2;exact⟨u,hagg cs u h1,h2⟩
  |tup ts=>
   obtain⟨vs,g1,g2,g3⟩:=v2
   refine⟨vs,g1,by simpa using g2,fun j c cs hj=>?_⟩
   rw[List.getElem?_map]at hj
   obtain⟨z,hz,hzz⟩:=Option.map_eq_some_iff.1 hj
   obtain⟨c',cs'⟩:=z
   simp at hzz
   obtain⟨rfl,rfl⟩:=hzz
   obtain⟨u,u1,u2⟩:=g3 j c' cs' hz
   refine⟨u,u1,?_⟩
   rcases u2 with⟨u2,u3⟩|⟨u2,q',rfl,u4⟩
   ·exact .inl ⟨u2,hagg _ _ u3⟩
   ·exact .inr ⟨u2,_,rfl,kmapB _ _ u4⟩
theorem vz {P:Program} {c:Code} {Q:Exit->AS->Prop} {s:AS} (d:Nat) {ty:TypeId} {cs:List PV} (hd:s.H d=[⟨ty,cs.length,[cs.map AV.p]⟩])
  (h: ∀b,gh P b ty c (fun e s' cs'=>s'.H d=[]/\Q e ⟨s'.tmps.map (DI d b),au s'.H d [⟨ty,cs'.length,[cs'.map AV.p]⟩]⟩) ⟨s.tmps.map (vy d b),au s.H d []⟩ cs):bX P c Q s:=fun w0 O X a w r=>by
 obtain⟨b,h1,h2,h3⟩:=zd d hd r
 exact wp_mono (h b _ _ _ _ _ h3) fun e a' w' ⟨s',cs',⟨hq1,hq2⟩,hr⟩=>⟨_,hq2,AG h1 h2 hq1 hr⟩
end
theorem CW {i:Nat} {c:Int} {f:Nat->Nat->Int} {m:Nat} (hc:c<0) (a b:Nat):upd (gc i i c f m) m i (0-f m i) a b=gc i i c f (m+1) a b:=by
 rw[Int.zero_sub]
 unfold upd gc pP
 by_cases h1:a=m
 ·subst h1
  by_cases h2:b=i
  ·subst h2;simp[hc]
  ·simp[h2]
 ·have:a<m+1↔a<m:=by omega
  simp[h1,this]
theorem BD {i j:Nat} {f:Nat->Nat->Int} {m:Nat} (hij:i≠j) (a b:Nat):upd (upd (gc i j 0 f m) m i (f m j)) m j (f m i) a b=gc i j 0 f (m+1) a b:=by
 unfold upd gc pP
 by_cases h1:a=m
 ·subst h1
  by_cases h2:b=j
  ·subst h2;simp[hij,Ne.symm hij]
  ·by_cases h3:b=i
   ·subst h3;simp[hij]
   ·simp[h2,h3,hij]
 ·have:a<m+1↔a<m:=by omega
  simp[h1,this]
theorem zz {i j:Nat} {c:Int} {f:Nat->Nat->Int} {m:Nat} (hij:i≠j) (hc:c≠0) (a b:Nat):upd (gc i j c f m) m i (f m i+c*f m j) a b=gc i j c f (m+1) a b:=by
 unfold upd gc pP
 by_cases h1:a=m
 ·subst h1
  by_cases h2:b=i
  ·subst h2;simp[hij,hc]
  ·simp[h2,hij,hc]
 ·have:a<m+1↔a<m:=by omega
  simp[h1,this]
theorem Al {i:Nat} {c:Int} {f:Nat->Nat->Int} {m:Nat} (hc: ¬c<0) (a b:Nat):gc i i c f m a b=gc i i c f (m+1) a b:=by
 unfold gc pP
 simp[hc]
theorem CR {c x:Int} (h1: -2<=c) (h2:c<=2) (h3: -531441<=x) (h4:x<=531441): -1062882<=c*x/\c*x<=1062882:=by
 have:c= -2\/c= -1\/c=0\/c=1\/c=2:=by omega
 rcases this with rfl|rfl|rfl|rfl|rfl<;>omega
abbrev EM (L:List Int) (p:Nat):List OObj:=[⟨45,2,[[.p (.sl (ls f8 L)),.p (.raw (.int .i64 (p:Int)))]]⟩]
structure Fw where
 k:Nat
 hk:k<=12
theorem D2 (L:List Int) (n:Nat) (hL:I8 L) (hn1:1<=n) (hn:n<=16):
  CallC Tryz.prog 6 [Aa L,.raw (.int .i64 (n:Int))] ⟨qn 0 n n (mq L n),.one (.sl 0 0 0 n)⟩:=by
 refine aC Tryz.func6 rfl (by kernel_rfl) ?_;rw[Tryz.ntmps6]
 (refine aa [] fun K hK=>?_;simp(disch:=omega) only[kc,ab,Aa,Nat.reduceAdd,List.replicate,ac,Value.oneCell'];apply hK)
 (refine aa [] fun K hK=>?_;simp(disch:=omega) only[kc,ab,Nat.reduceAdd,ca,aT,aI,bi,qy,di,xq,Int.natCast_nonneg,Value.oneCell',and_true,bL];apply hK)
 (refine ae (aa [] fun K hK=>?_);simp(disch:=omega) only[kc,ab,Nat.reduceAdd,aq,ao,bi,ac,Value.oneCell'];apply hK)
 refine bT (G:=uu n) (fun g=>⟨[Aa L,.raw (.int .i64 (n:Int)),jk,jk,jk,.one (.sl 14 0 0 n),jk,jk,jk,jk,jk,jk,jk,jk,jk,jk,.raw (.int .i64 (n:Int)),.raw (.int .i64 (g.i:Int)),jk,jk,jk,jk,jk,jk,jk,jk,jk,jk,jk,jk,jk,jk,jk,jk,jk,jk,jk,jk,jk,jk,jk,jk,jk,jk,jk,jk,jk,jk,jk,jk,jk,jk,jk,jk,jk,jk,jk,jk,jk,jk,jk,jk,jk,jk,jk,jk,jk,jk,jk,jk,jk,jk,jk,jk,jk,jk,jk,jk,jk,jk,jk,jk,jk,jk,jk,jk,jk,jk,jk,jk,jk,jk,jk,jk,jk,jk,jk,jk,jk,jk,jk,jk,jk,jk,jk,jk,jk,jk,jk,jk,jk,jk,jk,jk,jk,jk,jk,jk,jk,jk,jk,jk,jk,jk,jk,jk,jk,jk,jk,jk,jk,jk,jk,jk,jk,jk,jk,jk,jk,jk,jk,jk,jk,jk,jk],Hm [(14,kI 14 n n g.i (yM g.i))]⟩) (fun g=>n-g.i) ⟨0,by omega⟩ ?_ ?_
 ·refine am ⟨?_,trivial⟩ ?_
  ·show[_]=_
   simp[kI,gd,dp]
  ·simp[cu,bD,bA]
 ·rintro⟨i,hi⟩
  simp only
  by_cases hm:i<n
  ·have k1:=Aq (i:=i) (n:=n) 14 n hm
   have k2:=rB (i:=i) (n:=n) 14 n hi
   have k3:=ci i n (yM i)
   have k4:=xh (i:=i) (n:=n) (c:=n) 14 (yM i) hm (fun j hj=>by unfold yM;rw[if_neg (by omega)])
   have k5:=Bf (i:=i+1) (k:=i) (n:=n) 14 n (by omega)
   have k6:=rB (i:=i+1) (n:=n) 14 n (by omega)
   have k7:=iR (n:=i+1) n (yM i) (i:=i) (by omega)
   have k8:=ce (yM i i) hm
   (refine aa [] fun K hK=>?_;simp(disch:=omega) only[kc,ab,Aa,Hm,aj,ai,bE];apply hK)
   refine ae (af rfl (fun _=>ay ?_) (fun h=>by simp at h<;>omega))
   refine ae (aU ?_)
   (refine aa [] fun K hK=>?_;simp(disch:=omega) only[kc,ab];apply hK)
   (refine aa [] fun K hK=>?_;simp(disch:=omega) only[kc,ab,Nat.reduceAdd,ca,aT,aI,ch,tJ,ji,Ak,Int.natCast_nonneg,Value.oneCell',and_true,bL,Nat.reduceEqDiff,ag,ao,an,bi,au,di,aB,dr,bN,k1,putCells,cH,List.length_replicate,List.all_replicate,isPure,List.length_map,k3,k4,aH,aL,Nat.reduceBEq];apply hK)
   refine bX.weak (am (tm:=[Aa L,.raw (.int .i64 (n:Int)),jk,jk,jk,.one (.sl 14 0 0 n),.raw (.int .i64 (i:Int)),jk,jk,jk,jk,jk,jk,jk,jk,jk,.raw (.int .i64 (n:Int)),.raw (.int .i64 (i:Int)),jk,jk,jk,jk,jk,jk,jk,jk,jk,jk,jk,jk,jk,jk,jk,jk,jk,jk,jk,jk,jk,jk,jk,jk,jk,jk,jk,jk,jk,jk,jk,jk,jk,jk,jk,jk,jk,jk,jk,jk,jk,jk,jk,jk,jk,jk,jk,jk,jk,jk,jk,jk,jk,jk,jk,jk,jk,jk,jk,jk,jk,jk,jk,jk,jk,jk,jk,jk,jk,jk,jk,jk,jk,jk,jk,jk,jk,jk,jk,jk,jk,jk,jk,jk,jk,jk,jk,jk,jk,jk,jk,jk,jk,jk,jk,jk,jk,jk,jk,jk,jk,jk,jk,jk,jk,jk,jk,jk,jk,jk,jk,jk,jk,jk,jk,jk,jk,jk,jk,jk,jk,jk,jk,jk,jk,jk,jk]) (l:=[(14,kI 14 n n (i+1) (yM i))]) ⟨?_,trivial⟩ (by simp[cu,bD,bA])) ?_
   ·first|exact k4|rfl
   ((refine aX [] [] (by simp) fun K hK=>?_);simp(disch:=omega) only[kc,ab,Nat.reduceAdd,Aa,Hm,ag,ao,an,bi,di,bL,k5,ax,dm,ch,k7,ji,aB,dr,bN,b8,fI,k8,ac,Value.oneCell',cellsOf,Nat.le_refl,isPure,putCells,jx,aH,aL];apply hK)
   show bX _ _ _ _
   ((refine aX [] [] (by simp) fun K hK=>?_);simp(disch:=omega) only[kc,ab,aj,ac,Value.oneCell',ai,bC];apply hK)
   refine⟨⟨i+1,by omega⟩,by simp only;omega,am ⟨?_,trivial⟩ ?_⟩
   ·show _::_=_::_
    rw[dR fun x y _ _=>Am i x y]
   ·simp[cu,bD,bA]
  ·have hin:i=n:=by omega
   subst hin
   (refine aa [] fun K hK=>?_;simp(disch:=omega) only[kc,ab,Aa,Hm,aj,ai,bj];apply hK)
   refine ae (af rfl (fun h=>by simp at h<;>omega) (fun _=>bF ?_))
   show bX _ _ _ _
   have e:kI 14 i i i (yM i)=qn 14 i i (fF L i 0).1:=by
    rw[zx]
    show _::_=_::_
    rw[dR fun x y hx _=>CZ x y hx];rfl
   rw[e]
   obtain⟨n,hni⟩: ∃n,n=i:=⟨_,rfl⟩
   subst hni
   (refine aa [] fun K hK=>?_;simp(disch:=omega) only[kc,ab,Nat.reduceAdd,eh,ao,qJ,tO,Value.oneCell',ex,cellsOf,Nat.reduceLeDiff,bL,cd,aT,aI,isPure,Nat.reduceEqDiff];apply hK)
   (refine ae (aa [] fun K hK=>?_);simp(disch:=omega) only[kc,ab,ac,Value.oneCell'];apply hK)
   refine bT (G:=Fw) (fun g=>⟨[jk,.raw (.int .i64 (n:Int)),jk,jk,jk,.one (.sl 14 0 0 n),jk,.one (.ptr 34 0 0 0),.raw (.int .i64 (g.k:Int)),jk,jk,jk,jk,jk,jk,jk,jk,jk,jk,jk,jk,jk,jk,jk,jk,jk,jk,jk,jk,jk,jk,jk,jk,jk,jk,jk,jk,jk,jk,jk,jk,jk,jk,jk,jk,jk,jk,jk,jk,jk,jk,jk,jk,jk,jk,jk,jk,jk,jk,jk,jk,jk,jk,jk,jk,jk,jk,jk,jk,jk,jk,jk,jk,jk,jk,jk,jk,jk,jk,jk,jk,jk,jk,jk,jk,jk,jk,jk,jk,jk,jk,jk,jk,jk,jk,jk,jk,jk,jk,jk,jk,jk,jk,jk,jk,jk,jk,jk,jk,jk,jk,jk,jk,jk,jk,jk,jk,jk,jk,jk,jk,jk,jk,jk,jk,jk,jk,jk,jk,jk,jk,jk,jk,jk,jk,jk,jk,jk,jk,jk,jk,jk,jk,jk,jk],Hm [(14,qn 14 n n (fF L n g.k).1),(34,EM L (fF L n g.k).2)]⟩) (fun g=>12-g.k) ⟨0,by omega⟩ ?_ ?_
   ·refine am ⟨rfl,rfl,trivial⟩ ?_
    simp[cu,bD,bA]
   ·rintro⟨k,hk⟩
    simp only
    have hle:=xw L n k
    have hsm:=fun a b=>pe L n hk a b
    have hend:=Bl (L:=L) (n:=n) hk
    have hstep: ∀x,x=fF L n (k+1)->x=(let s:=fF L n k;if s.2<L.length then(pP (nn L s.2 n) (nn L (cJ L s.2) n) (Int.tmod (L.getD (cJ L (cJ L s.2)) 0) 3) s.1,cJ L (cJ L (cJ L s.2)))else s):=fun x h=>h
    have hst:=hstep _ rfl
    generalize hu:fF L n k=u at*
    obtain⟨f,p⟩:=u
    simp only at hle hsm hend hst⊢
    by_cases hk12:k=12
    ·subst hk12
     rw[hend (.inl rfl)]
     (refine ae (bM bU [] [] (by kernel_rfl) (by simp) fun K hK=>?_);simp(disch:=omega) only[kc,ab,Nat.reduceAdd,Hm,aj,ac,Value.oneCell',ai,bj,aA,jc,ao,Option.map_none,aw,kQ,kq,aq,kL,aM];apply hK)
     refine af rfl (fun h=>by simp at h<;>omega) (fun _=>bF ?_)
     show bX _ _ _ _
     (refine aa [] fun K hK=>?_;simp(disch:=omega) only[kc,ab];apply hK)
     refine aE ⟨.inr rfl,_,du.refl _,?_⟩
     refine⟨.one (.sl 14 0 0 n),14,?_,rfl,?_,rfl⟩
     ·simp(disch:=omega) only[bK,Tryz.results6,aN,List.getElem?_cons_succ,List.getElem?_cons_zero]
     ·exact(q9 14 0 _ _ _).symm
    ·by_cases hp:p<L.length
     ·rw[if_pos hp]at hst
      have hi0:=ny (n:=n) L p hn1
      have hj0:=ny (n:=n) L (cJ L p) hn1
      have hc0:=zU (L.getD (cJ L (cJ L p)) 0)
      have l1:=gF hle
      have l2:=gF l1
      (refine ae (bM bU [] [] (by kernel_rfl) (by simp) fun K hK=>?_);simp(disch:=omega) only[kc,ab,Nat.reduceAdd,Hm,aj,ac,Value.oneCell',ai,bE,aA,jc,ao,aw,kQ,zE,Nat.reduceEqDiff,bL,ax,vX,kq,rj,Nat.add_zero,og,aq,kL,aD,aM];apply hK)
      refine af rfl (fun _=>ay ?_) (fun h=>by simp at h<;>omega)
      refine ae (vz 34 (cs:=BO L p) rfl fun b=>?_)
      refine gz ?_
      refine gh.weak (am (tm:=[jk,.raw (.int .i64 (n:Int)),jk,jk,jk,.one (.sl 14 0 0 n),jk,gP b,.raw (.int .i64 (k:Int)),jk,jk,jk,jk,jk,jk,jk,jk,jk,jk,jk,jk,jk,jk,jk,jk,jk,jk,jk,jk,jk,jk,jk,jk,jk,jk,jk,jk,jk,jk,jk,jk,jk,jk,jk,jk,jk,jk,jk,jk,jk,jk,jk,jk,jk,jk,jk,jk,jk,jk,jk,jk,jk,jk,jk,jk,jk,jk,jk,jk,jk,jk,jk,jk,jk,jk,jk,jk,jk,jk,jk,jk,jk,jk,jk,jk,jk,jk,jk,jk,jk,jk,jk,jk,jk,jk,jk,jk,jk,jk,jk,jk,jk,jk,jk,jk,jk,jk,jk,jk,jk,jk,jk,jk,jk,jk,jk,jk,jk,jk,jk,jk,jk,jk,jk,jk,jk,jk,jk,jk,jk,jk,jk,jk,jk,jk,jk,jk,jk,jk,jk,jk,jk,jk,jk,jk]) (l:=[(14,qn 14 n n f)]) ⟨rfl,trivial⟩ (by simp[cu,bD,bA,vy,jq])) ?_
      have b1:=xn b L p n hL hle hn1 (by omega)
      have b2:=xn b L (cJ L p) n hL l1 hn1 (by omega)
      have b3:=uZ b L (cJ L (cJ L p)) hL l2
      generalize nn L p n=i at*
      generalize nn L (cJ L p) n=j at*
      generalize cJ L (cJ L p)=p2 at*
      generalize cJ L p2=p3 at*
      refine uS 2 5 b1 b2 [] [] (by kernel_rfl) (by kernel_rfl) (by rfl) (by rfl) (by rfl) (by rfl) (by decide) (by simp) fun K hK=>?_
      simp(disch:=omega) only[kc,gP,Nat.reduceAdd,ab,Hm,ak,aT,aI,List.find?_cons,aQ,bo,CallRes.plain,aR,aV,az,noRefTV,ap,aS,aP]
      apply hK
      clear hK K
      refine⟨by simp,?_⟩
      intro K hK
      simp(disch:=omega) only[kc,gP,Nat.reduceAdd,ab,ak,aT,aI,List.find?_cons,aQ,bo,CallRes.plain,aR,aV,az,noRefTV,ap,aS,aP]
      apply hK
      clear hK K
      refine gh.weak (am (tm:=[jk,.raw (.int .i64 (n:Int)),jk,jk,jk,.one (.sl 14 0 0 n),jk,gP b,.raw (.int .i64 (k:Int)),.raw (.int .i64 (i:Int)),.raw (.int .i64 (j:Int)),jk,jk,jk,jk,jk,jk,jk,jk,jk,jk,jk,jk,jk,jk,jk,jk,jk,jk,jk,jk,jk,jk,jk,jk,jk,jk,jk,jk,jk,jk,jk,jk,jk,jk,jk,jk,jk,jk,jk,jk,jk,jk,jk,jk,jk,jk,jk,jk,jk,jk,jk,jk,jk,jk,jk,jk,jk,jk,jk,jk,jk,jk,jk,jk,jk,jk,jk,jk,jk,jk,jk,jk,jk,jk,jk,jk,jk,jk,jk,jk,jk,jk,jk,jk,jk,jk,jk,jk,jk,jk,jk,jk,jk,jk,jk,jk,jk,jk,jk,jk,jk,jk,jk,jk,jk,jk,jk,jk,jk,jk,jk,jk,jk,jk,jk,jk,jk,jk,jk,jk,jk,jk,jk,jk,jk,jk,jk,jk,jk,jk,jk,jk,jk,jk]) (l:=[(14,qn 14 n n f)]) ⟨rfl,trivial⟩ (by simp[cu,bD,bA])) ?_
      (refine qM 1 b3 [] [] (by kernel_rfl) (by rfl) (by rfl) (by simp) fun K hK=>?_;simp(disch:=omega) only[kc,gP,ab,Nat.reduceAdd,Hm,ak,aT,aI,List.find?_cons,aQ,bo,CallRes.plain,aR,aV,az,noRefTV,ap,aS,aP,aj,ac,Value.oneCell',ai,bL];apply hK)
      generalize hcc:Int.tmod (L.getD p2 0) 3=c at*
      (refine cB [] [] (by simp) fun K hK=>?_;simp(disch:=omega) only[kc,ab,Nat.reduceAdd,aq,ao,bi,ac,Value.oneCell'];apply hK)
      refine pu (G:=uu n) (fun q=>⟨[jk,.raw (.int .i64 (n:Int)),jk,jk,jk,.one (.sl 14 0 0 n),jk,gP b,.raw (.int .i64 (k:Int)),.raw (.int .i64 (i:Int)),.raw (.int .i64 (j:Int)),.raw (.int .i64 c),jk,jk,jk,jk,jk,jk,jk,jk,jk,jk,jk,jk,jk,jk,jk,jk,jk,jk,jk,jk,jk,jk,jk,jk,jk,jk,jk,jk,jk,jk,jk,jk,jk,jk,jk,jk,jk,jk,jk,jk,jk,jk,jk,jk,jk,jk,jk,jk,jk,.raw (.int .i64 (n:Int)),.raw (.int .i64 (q.i:Int)),jk,jk,jk,jk,jk,jk,jk,jk,jk,jk,jk,jk,jk,jk,jk,jk,jk,jk,jk,jk,jk,jk,jk,jk,jk,jk,jk,jk,jk,jk,jk,jk,jk,jk,jk,jk,jk,jk,jk,jk,jk,jk,jk,jk,jk,jk,jk,jk,jk,jk,jk,jk,jk,jk,jk,jk,jk,jk,jk,jk,jk,jk,jk,jk,jk,jk,jk,jk,jk,jk,jk,jk,jk,jk,jk,jk,jk,jk,jk,jk,jk,jk],Hm [(14,qn 14 n n (gc i j c f q.i))]⟩) (fun _=>BO L p3) (fun q=>n-q.i) ⟨0,by omega⟩ ?_ rfl ?_
      ·rw[y4]
       refine am ⟨rfl,trivial⟩ ?_
       simp[cu,bD,bA]
      ·rintro⟨r,hr⟩
       simp only
       by_cases hm:r<n
       ·have g1:=dj (n:=n) (i:=r) 14 n hm
        have g3:=iR (n:=n) n (gc i j c f r) (i:=r) hm
        have g4:(da n (gc i j c f r r))[i]?=some (f r i):=by rw[ce _ hi0,mn]
        have g5:(da n (gc i j c f r r))[j]?=some (f r j):=by rw[ce _ hj0,mn]
        have s1:=hsm r i
        have s2:=hsm r j
        have s3:=CR hc0.1 hc0.2 s2.1 s2.2
        have s11:=s1.1
        have s12:=s1.2
        have s31:=s3.1
        have ya:=s3.2
        (refine cB [] [] (by simp) fun K hK=>?_;simp(disch:=omega) only[kc,ab,gP,Hm,aj,ai,bE];apply hK)
        refine eL (dJ rfl (fun _=>lO ?_) (fun h=>by simp at h<;>omega))
        refine eL (gz ?_)
        (refine cB [] [] (by simp) fun K hK=>?_;simp(disch:=omega) only[kc,ab];apply hK)
        refine gz ?_
        by_cases hij:i=j
        ·subst hij
         by_cases hc:c<0
         ·(refine cB [] [] (by simp) fun K hK=>?_;simp(disch:=omega) only[kc,ab,Nat.reduceAdd,aj,ai,bE,aA,ac,Value.oneCell',bL,aM];apply hK)
          refine dJ rfl (fun _=>?_) (fun h=>by simp at h<;>omega)
          ((refine mN bU [] [] (by kernel_rfl) (by simp) fun K hK=>?_);simp(disch:=omega) only[kc,ab,Nat.reduceAdd,ag,ao,an,bi,di,bL,g1,ax,dm,ch,g3,ji,b8,fI,g4,lG,cX,aj,eA,bC,aB,dr,bN,cellsOf,Nat.le_refl,isPure,putCells,jx,aH,aL];apply hK)
          show gh _ _ _ _ _ _ _
          ((refine iM [] [] (by simp) fun K hK=>?_);simp(disch:=omega) only[kc,ab,aj,ac,Value.oneCell',ai,bC];apply hK)
          refine⟨⟨r+1,by omega⟩,by simp only;omega,am ⟨?_,trivial⟩ ?_,rfl⟩
          ·show _::_=_::_
           rw[dR fun a b _ _=>CW (i:=i) (f:=f) (m:=r) hc a b]
          ·simp[cu,bD,bA]
         ·(refine cB [] [] (by simp) fun K hK=>?_;simp(disch:=omega) only[kc,ab,Nat.reduceAdd,aj,ai,bE,aA,ac,Value.oneCell',bL,bj,aM];apply hK)
          refine dJ rfl (fun h=>by simp at h<;>omega) (fun _=>?_)
          (refine cB [] [] (by simp) fun K hK=>?_;simp(disch:=omega) only[kc,ab,Nat.reduceAdd,aj,ai,bE,aA,ac,Value.oneCell',Option.map_none,aM];apply hK)
          refine dJ rfl (fun h=>by simp at h) (fun _=>?_)
          (refine cB [] [] (by simp) fun K hK=>?_;simp(disch:=omega) only[kc,ab,Nat.reduceAdd,aj,ai,bE];apply hK)
          refine dJ rfl (fun h=>by simp at h) (fun _=>lO ?_)
          show gh _ _ _ _ _ _ _
          ((refine iM [] [] (by simp) fun K hK=>?_);simp(disch:=omega) only[kc,ab,aj,ac,Value.oneCell',ai,bC];apply hK)
          refine⟨⟨r+1,by omega⟩,by simp only;omega,am ⟨?_,trivial⟩ ?_,rfl⟩
          ·show _::_=_::_
           rw[dR fun a b _ _=>Al (i:=i) (f:=f) (m:=r) hc a b]
          ·simp[cu,bD,bA]
        ·by_cases hc:c=0
         ·subst hc
          have q4:(da n (upd (gc i j 0 f r) r i (f r j) r))[j]?=some (f r j):=by
           rw[ce _ hj0,Bm (.inr (Ne.symm hij)),mn]
          have q3:=iR (n:=n) n (upd (gc i j 0 f r) r i (f r j)) (i:=r) hm
          (refine cB [] [] (by simp) fun K hK=>?_;simp(disch:=omega) only[kc,ab,Nat.reduceAdd,aj,ai,bj,aA,ac,Value.oneCell',Option.map_none,aM];apply hK)
          refine dJ rfl (fun h=>by simp at h<;>omega) (fun _=>?_)
          (refine cB [] [] (by simp) fun K hK=>?_;simp(disch:=omega) only[kc,ab,Nat.reduceAdd,aj,ai,bj,Bool.not_false,aA,ac,Value.oneCell',bL,bE,aM];apply hK)
          refine dJ rfl (fun _=>?_) (fun h=>by simp at h<;>omega)
          ((refine mN bU [] [] (by kernel_rfl) (by simp) fun K hK=>?_);simp(disch:=omega) only[kc,ab,Nat.reduceAdd,ag,ao,an,bi,di,bL,g1,ax,dm,ch,g3,ji,b8,fI,g5,lG,g4,aB,dr,bN,cellsOf,Nat.le_refl,isPure,putCells,jx,aH,aL,au,cH,q3,q4];apply hK)
          show gh _ _ _ _ _ _ _
          ((refine iM [] [] (by simp) fun K hK=>?_);simp(disch:=omega) only[kc,ab,aj,ac,Value.oneCell',ai,bC];apply hK)
          refine⟨⟨r+1,by omega⟩,by simp only;omega,am ⟨?_,trivial⟩ ?_,rfl⟩
          ·show _::_=_::_
           rw[dR fun a b _ _=>BD (f:=f) (m:=r) hij a b]
          ·simp[cu,bD,bA]
         ·(refine cB [] [] (by simp) fun K hK=>?_;simp(disch:=omega) only[kc,ab,Nat.reduceAdd,aj,ai,bj,aA,ac,Value.oneCell',Option.map_none,aM];apply hK)
          refine dJ rfl (fun h=>by simp at h<;>omega) (fun _=>?_)
          (refine cB [] [] (by simp) fun K hK=>?_;simp(disch:=omega) only[kc,ab,Nat.reduceAdd,aj,ai,bj,Bool.not_false,aA,ac,Value.oneCell',bL,aM];apply hK)
          refine dJ rfl (fun h=>by simp at h<;>omega) (fun _=>?_)
          (refine cB [] [] (by simp) fun K hK=>?_;simp(disch:=omega) only[kc,ab,Nat.reduceAdd,aj,ai,bj,Bool.not_false];apply hK)
          refine dJ rfl (fun _=>?_) (fun h=>by simp at h<;>omega)
          ((refine mN bU [] [] (by kernel_rfl) (by simp) fun K hK=>?_);simp(disch:=omega) only[kc,ab,Nat.reduceAdd,ag,ao,an,bi,di,bL,g1,ax,dm,ch,g3,ji,b8,fI,g4,lG,g5,aj,ai,bC,aB,dr,bN,cellsOf,Nat.le_refl,isPure,putCells,jx,aH,aL];apply hK)
          show gh _ _ _ _ _ _ _
          ((refine iM [] [] (by simp) fun K hK=>?_);simp(disch:=omega) only[kc,ab,aj,ac,Value.oneCell',ai,bC];apply hK)
          refine⟨⟨r+1,by omega⟩,by simp only;omega,am ⟨?_,trivial⟩ ?_,rfl⟩
          ·show _::_=_::_
           rw[dR fun a b _ _=>zz (f:=f) (m:=r) hij hc a b]
          ·simp[cu,bD,bA]
       ·have hrn:r=n:=by omega
        subst hrn
        (refine cB [] [] (by simp) fun K hK=>?_;simp(disch:=omega) only[kc,ab,gP,Hm,aj,ai,bj];apply hK)
        refine eL (dJ rfl (fun h=>by simp at h<;>omega) (fun _=>oo ?_))
        have e:qn 14 r r (gc i j c f r)=qn 14 r r (pP i j c f):=by
         show _::_=_::_
         rw[dR fun a b ha _=>A5 ha]
        rw[e]
        refine⟨rfl,?_⟩
        show bX _ _ _ _
        refine bX.weak (am (tm:=[jk,.raw (.int .i64 (r:Int)),jk,jk,jk,.one (.sl 14 0 0 r),jk,.one (.ptr 34 0 0 0),.raw (.int .i64 (k:Int)),jk,jk,jk,jk,jk,jk,jk,jk,jk,jk,jk,jk,jk,jk,jk,jk,jk,jk,jk,jk,jk,jk,jk,jk,jk,jk,jk,jk,jk,jk,jk,jk,jk,jk,jk,jk,jk,jk,jk,jk,jk,jk,jk,jk,jk,jk,jk,jk,jk,jk,jk,jk,jk,jk,jk,jk,jk,jk,jk,jk,jk,jk,jk,jk,jk,jk,jk,jk,jk,jk,jk,jk,jk,jk,jk,jk,jk,jk,jk,jk,jk,jk,jk,jk,jk,jk,jk,jk,jk,jk,jk,jk,jk,jk,jk,jk,jk,jk,jk,jk,jk,jk,jk,jk,jk,jk,jk,jk,jk,jk,jk,jk,jk,jk,jk,jk,jk,jk,jk,jk,jk,jk,jk,jk,jk,jk,jk,jk,jk,jk,jk,jk,jk,jk,jk,jk]) (l:=[(14,qn 14 r r (pP i j c f)),(34,EM L p3)]) ⟨rfl,rfl,trivial⟩ (by simp[cu,bD,bA,DI,tS])) ?_
        ((refine aX [] [] (by simp) fun K hK=>?_);simp(disch:=omega) only[kc,ab,Nat.reduceAdd,Hm,aj,ac,Value.oneCell',ai,bC];apply hK)
        refine⟨⟨k+1,by omega⟩,by simp only;omega,?_⟩
        rw[hst]
        refine am ⟨rfl,rfl,trivial⟩ ?_
        simp[cu,bD,bA]
     ·rw[hend (.inr hp)]
      (refine ae (bM bU [] [] (by kernel_rfl) (by simp) fun K hK=>?_);simp(disch:=omega) only[kc,ab,Nat.reduceAdd,Hm,aj,ac,Value.oneCell',ai,bE,aA,jc,ao,aw,kQ,zE,Nat.reduceEqDiff,bL,ax,vX,kq,rj,Nat.add_zero,og,aq,kL,aD,bj,aM];apply hK)
      refine af rfl (fun h=>by simp at h<;>omega) (fun _=>bF ?_)
      show bX _ _ _ _
      (refine aa [] fun K hK=>?_;simp(disch:=omega) only[kc,ab];apply hK)
      refine aE ⟨.inr rfl,_,du.refl _,?_⟩
      refine⟨.one (.sl 14 0 0 n),14,?_,rfl,?_,rfl⟩
      ·simp(disch:=omega) only[bK,Tryz.results6,aN,List.getElem?_cons_succ,List.getElem?_cons_zero]
      ·exact(q9 14 0 _ _ _).symm
end Go.Proofs.YtpgghglbpcabkaaGreat
