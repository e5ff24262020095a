/-
  Part 18 of a proof (walks and plain facts).
-/
import Derived.Test.YtpgghglbpcabkaaGreatP16
set_option linter.all false
set_option maxRecDepth 100000
set_option maxHeartbeats 64000000
namespace Go.Proofs.YtpgghglbpcabkaaGreat
open Go.RowKit
theorem wS {d n c i k:Nat} (h:k<i):(gd d (List.replicate i c)++List.replicate (n-i) [AV.p (PV.sl [])])[k]?=some [.sl d (k+1) 0 c]:=by
 rw[List.getElem?_append_left (by simp[cV];exact h),dj d c h]
theorem xv {d n c i:Nat} (h:i<=n):(gd d (List.replicate i c)++List.replicate (n-i) [AV.p (PV.sl [])]).length=n:=by simp[cV];omega
theorem CY (n c:Nat) (f:Nat->Nat->Int) (hn1:1<=n) (hn:n<=16) (hc1:1<=c) (hc:c<=16) (hf: ∀i j,i<n->j<c-> -9223372036854775808<=f i j/\f i j<=9223372036854775807):
  CallC Tryz.prog 46 [.raw (.int .i64 (n:Int)),.raw (.int .i64 (c:Int)),.fn 47 [kO (dp n c f)]] ⟨js 0 n c f,.one (.sl 0 0 0 n)⟩:=by
 refine aC Tryz.func46 rfl (by kernel_rfl) ?_;rw[Tryz.ntmps46]
 (refine aa [] fun K hK=>?_;simp(disch:=omega) only[kc,ab,kO,Nat.reduceAdd,List.replicate,ac,Value.oneCell'];apply hK)
 (refine aa [] fun K hK=>?_;simp(disch:=omega) only[kc,ab,Nat.reduceAdd,ca,aT,aI,be,j5,cj,nJ,Int.natCast_nonneg,Value.oneCell',and_true,bL];apply hK)
 (refine ae (aa [] fun K hK=>?_);simp(disch:=omega) only[kc,ab,Nat.reduceAdd,aq,ao,be,ac,Value.oneCell'];apply hK)
 refine bT (G:=uu n) (fun g=>⟨[jk,.raw (.int .i64 (c:Int)),.fn 47 [kO (dp n c f)],jk,jk,jk,jk,.one (.sl 11 0 0 n),jk,jk,jk,jk,jk,.raw (.int .i64 (n:Int)),.raw (.int .i64 (g.i:Int)),jk,jk,jk,jk,jk,jk,jk,jk,jk,jk,jk,jk,jk,jk,jk,jk,jk,jk,jk,jk,jk,jk,jk,jk,jk,jk,jk,jk],Hm [(11,ut 11 n c g.i (part f g.i 0))]⟩) (fun g=>n-g.i) ⟨0,by omega⟩ ?_ ?_
 ·refine(fy 11).trans (am ⟨qD 11 n c _,trivial⟩ ?_)
  simp[cu,bD,bA]
 ·rintro⟨i,hi⟩
  simp only
  by_cases hm:i<n
  ·have hg:=r7 (d:=11) (c:=c) hm
   (refine aa [] fun K hK=>?_;simp(disch:=omega) only[kc,ab,kO,Hm,aj,ai,bE];apply hK)
   refine ae (af rfl (fun _=>ay ?_) (fun h=>by simp at h<;>omega))
   refine ae (aU ?_)
   (refine aa [] fun K hK=>?_;simp(disch:=omega) only[kc,ab];apply hK)
   simp only[ut]
   (refine aa [] fun K hK=>?_;simp(disch:=omega) only[kc,ab,Nat.reduceAdd,ca,aT,aI,bQ,aZ,aF,kX,Int.natCast_nonneg,Value.oneCell',and_true,bL,Nat.reduceEqDiff,ag,ao,an,be,au,cj,aB,dr,bN,hg,putCells,cH,List.length_replicate,List.all_replicate,isPure,List.length_map,ci,aH,aL,Nat.reduceBEq];apply hK)
   refine bX.weak ((fy 11).trans (am (tm:=[jk,.raw (.int .i64 (c:Int)),.fn 47 [kO (dp n c f)],jk,jk,jk,jk,.one (.sl 11 0 0 n),.raw (.int .i64 (i:Int)),jk,jk,jk,jk,.raw (.int .i64 (n:Int)),.raw (.int .i64 (i:Int)),jk,jk,jk,jk,jk,jk,jk,jk,jk,jk,jk,jk,jk,jk,jk,jk,jk,jk,jk,jk,jk,jk,jk,jk,jk,jk,jk,jk]) (l:=[(11,ut 11 n c (i+1) (part f i 0))]) ⟨sY (part f i 0) hm (fun b _=>by simp[part]),trivial⟩ (by simp[cu,bD,bA]))) ?_
   have a1:=wS (d:=11) (n:=n) (c:=c) (show i<i+1 by omega)
   have a2:=xv (d:=11) (n:=n) (c:=c) (show i+1<=n by omega)
   have a3:=et (n:=i+1) c (part f i 0) (show i<i+1 by omega)
   simp only[ut]
   (refine aa [] fun K hK=>?_;simp(disch:=omega) only[kc,ab,Nat.reduceAdd,kO,Hm,ag,ao,an,be,cj,bL,a1,ax,cq,aq,bQ,ac,Value.oneCell'];apply hK)
   refine bT (G:=uu c) (fun g=>⟨[jk,.raw (.int .i64 (c:Int)),.fn 47 [kO (dp n c f)],jk,jk,jk,jk,.one (.sl 11 0 0 n),.raw (.int .i64 (i:Int)),jk,jk,jk,jk,.raw (.int .i64 (n:Int)),.raw (.int .i64 (i:Int)),jk,jk,jk,jk,jk,jk,jk,jk,jk,jk,jk,.raw (.int .i64 (c:Int)),.raw (.int .i64 (g.i:Int)),jk,jk,jk,jk,jk,jk,jk,jk,jk,jk,jk,jk,jk,jk,jk],Hm [(11,ut 11 n c (i+1) (part f i g.i))]⟩) (fun g=>c-g.i) ⟨0,by omega⟩ ?_ ?_
   ·refine am ⟨rfl,trivial⟩ ?_
    simp[cu,bD,bA]
   ·rintro⟨j,hj⟩
    simp only
    by_cases hm2:j<c
    ·have hS:=EP (n:=n) (c:=c) (f:=f) hm hm2 hc hn (hf i j hm hm2)
     have g2:=et (n:=i+1) c (part f i j) (show i<i+1 by omega)
     have g3:=ce (part f i j i) hm2
     (refine aa [] fun K hK=>?_;simp(disch:=omega) only[kc,ab,kO,Hm,aj,ai,bE];apply hK)
     refine ae (af rfl (fun _=>ay ?_) (fun h=>by simp at h<;>omega))
     refine ae (aU ?_)
     (refine aa [] fun K hK=>?_;simp(disch:=omega) only[kc,ab];apply hK)
     simp only[ut]
     ((refine fB bU [⟨8,_,_,_,hS⟩] [] (by kernel_rfl) (by simp) fun K hK=>?_);simp(disch:=omega) only[kc,kO,tZ,ar.a,ab,Nat.reduceAdd,ag,ao,an,be,cj,bL,a1,ax,cq,yK,aT,aI,yN,List.find?_cons,aQ,bo,CallRes.plain,aR,aV,az,noRefTV,ap,aS,aP,bQ,g2,aF,aB,dr,bN,b8,fZ,g3,cellsOf,Nat.le_refl,isPure,putCells,nH,aH,aL];apply hK)
     show bX _ _ _ _
     ((refine aX [] [] (by simp) fun K hK=>?_);simp(disch:=omega) only[kc,ab,aj,ac,Value.oneCell',ai,bC];apply hK)
     refine⟨⟨j+1,by omega⟩,by simp only;omega,am ⟨?_,trivial⟩ ?_⟩
     ·show _::_=_::_
      rw[dC fun a b _ _=>mI f i j a b]
     ·simp[cu,bD,bA]
    ·have hjc:j=c:=by omega
     subst hjc
     (refine aa [] fun K hK=>?_;simp(disch:=omega) only[kc,ab,kO,Hm,aj,ai,bj];apply hK)
     refine ae (af rfl (fun h=>by simp at h<;>omega) (fun _=>bF ?_))
     show bX _ _ _ _
     ((refine aX [] [] (by simp) fun K hK=>?_);simp(disch:=omega) only[kc,ab,aj,ac,Value.oneCell',ai,bC];apply hK)
     refine⟨⟨i+1,by omega⟩,by simp only;omega,am ⟨?_,trivial⟩ ?_⟩
     ·show _::_=_::_
      rw[dC fun a b _ hb=>pF f i a b hb]
     ·simp[cu,bD,bA]
  ·have hin:i=n:=by omega
   subst hin
   rw[tN]
   (refine aa [] fun K hK=>?_;simp(disch:=omega) only[kc,ab,kO,Hm,aj,ai,bj];apply hK)
   refine ae (af rfl (fun h=>by simp at h<;>omega) (fun _=>bF ?_))
   show bX _ _ _ _
   (refine aa [] fun K hK=>?_;simp(disch:=omega) only[kc,ab];apply hK)
   refine aE ⟨.inr rfl,_,du.refl _,?_⟩
   refine⟨.one (.sl 11 0 0 i),11,?_,rfl,?_,rfl⟩
   ·simp(disch:=omega) only[bK,Tryz.results46,aN,List.getElem?_cons_succ,List.getElem?_cons_zero]
   ·show js 0 i c f=(js 11 i c (part f i 0)).map (db 0)
    rw[lH 11 0]
    show _::_=_::_
    rw[dC fun a b ha _=>lI f a b ha]
theorem rL (M:List (List Int)) (hM: ¬sf M):CallC Tryz.prog 20 [ey M] ⟨[],BL⟩:=by
 have hS:=s7 M
 rw[eD hM]at hS
 unfold BL
 refine aC Tryz.func20 rfl (by kernel_rfl) ?_;rw[Tryz.ntmps20]
 (refine aa [] fun K hK=>?_;simp(disch:=omega) only[kc,ab,Nat.reduceAdd,ey,List.replicate,cd,aT,aI,cellsOf,isPure,bL,ac,Value.oneCell'];apply hK)
 (refine aa [⟨1,_,_,_,hS⟩] fun K hK=>?_;simp(disch:=omega) only[kc,ey,ar.a,ab,Nat.reduceAdd,ao,au,ax,rN,nN,ak,aT,aI,List.find?_cons,aQ,bo,CallRes.plain,aR,aV,az,noRefTV,ap,aS,aP,bz,aj];apply hK)
 (refine ae (aa [] fun K hK=>?_);simp(disch:=omega) only[kc,ab,cX,aj,eA,Bool.not_false];apply hK)
 refine af rfl (fun _=>?_) (fun h=>by simp at h)
 (refine aa [] fun K hK=>?_;simp(disch:=omega) only[kc,ab,ac,Value.oneCell'];apply hK)
 (refine aE ⟨.inr rfl,aJ rfl ?_ rfl⟩;simp(disch:=omega) only[bK,Tryz.results20,dc,aN,List.getElem?_cons_succ,List.getElem?_cons_zero,Option.bind_some,b7,Option.map_some])
theorem tT (n c:Nat) (f:Nat->Nat->Int) (hn1:1<=n) (hn:n<=16) (hc1:1<=c) (hc:c<=16) (hf: ∀i j,i<n->j<c-> -9223372036854775808<=f i j/\f i j<=9223372036854775807):
  CallC Tryz.prog 20 [ey (dp n c f)] ⟨[],yS (dp n c f)⟩:=by
 have hml:=ci n c f
 have h0:=fV (M:=dp n c f) (by omega)
 have h1:=df (n:=n) c f (i:=0) (by omega)
 have hhd:(dp n c f).headD []=da c (f 0):=by rw[h1]at h0;injection h0 with h0;exact h0.symm
 have hsh:sf (dp n c f):=⟨by omega,by omega,fun r hr=>by
  obtain⟨i,_,rfl⟩:=List.mem_map.1 hr
  rw[hhd]
  simp[rOk,cL];omega⟩
 have hS:=s7 (dp n c f)
 rw[iW hsh,hml,hhd,cL]at hS
 have hB:=CY n c f hn1 hn hc1 hc hf
 unfold yS
 refine aC Tryz.func20 rfl (by kernel_rfl) ?_;rw[Tryz.ntmps20]
 (refine aa [] fun K hK=>?_;simp(disch:=omega) only[kc,ab,Nat.reduceAdd,ey,List.replicate,cd,aT,aI,cellsOf,isPure,bL,ac,Value.oneCell'];apply hK)
 (refine aa [⟨1,_,_,_,hS⟩] fun K hK=>?_;simp(disch:=omega) only[kc,ey,ar.a,ab,Nat.reduceAdd,ao,au,ax,rN,nN,ak,aT,aI,List.find?_cons,aQ,bo,CallRes.plain,aR,aV,az,noRefTV,ap,aS,aP,bz,aj];apply hK)
 (refine ae (aa [] fun K hK=>?_);simp(disch:=omega) only[kc,ab,cX,aj,eA];apply hK)
 refine af rfl (fun h=>by simp at h) (fun _=>ay ?_)
 show bX _ _ _ _
 refine bX.weak ((zT 1 1 (cs:=[.sl (ls (fR fI) (dp n c f))]) rfl rfl).trans (am (tm:=[jk,.one (kO (dp n c f)),jk,jk,.raw (.int .i64 (n:Int)),.raw (.int .i64 (c:Int)),jk,jk,jk,jk,jk,jk,jk,jk,jk,jk,jk,jk,jk]) (l:=[]) trivial (by simp[cu,bD,bA,gR,eX,au,Hm]))) ?_
 (refine aa [⟨3,_,_,_,hB⟩] fun K hK=>?_;simp(disch:=omega) only[kc,kO,ar.a,ab,Nat.reduceAdd,Hm,rp,ao,List.isEmpty_toArray,aQ,jB,ak,aT,aI,List.find?_cons,bo,CallRes.plain,List.isEmpty_cons,aR,aV,az,isPure,Bool.not_false,noRefTV,ap,Bool.or_false,aS,aP,db,ac,Value.oneCell'];apply hK)
 refine bX.weak (am (tm:=[jk,jk,.one (.sl 18 0 0 n),.raw (.bool true),jk,jk,jk,jk,jk,jk,jk,jk,jk,jk,jk,jk,jk,jk,jk]) (l:=[(18,js 18 n c f)]) ⟨lH 0 18 n c f,trivial⟩ (by simp[cu,bD,bA])) ?_
 refine bX.weak ((d4 18 (w7 rfl)).trans (am (tm:=[jk,jk,em (dp n c f),.raw (.bool true),jk,jk,jk,jk,jk,jk,jk,jk,jk,jk,jk,jk,jk,jk,jk]) (l:=[]) trivial (by simp[cu,bD,bA];exact⟨(Fr (H:=Hm [(18,js 18 n c f)]) (d:=18) (n:=n) (c:=c) (f:=f) rfl).symm,rfl⟩))) ?_
 (refine aE ⟨.inr rfl,aJ rfl ?_ rfl⟩;simp(disch:=omega) only[bK,Tryz.results20,dc,aN,em,List.getElem?_cons_succ,List.getElem?_cons_zero,Option.bind_some,b7,Option.map_some])
theorem B8 {n c i:Nat} (g:Nat->Nat->Int) (h:Nat->Int):((dp n c g).map jp).set i ⟨53,2,lc fZ (da c h)⟩=(dp n c (fun r=>if r=i then h else g r)).map jp:=by
 rw[<- rq,List.map_set];rfl
theorem xZ (f:Nat->Nat->Int) (i a b:Nat):(fun r=>if r=i then f i else part f i 0 r) a b=part f (i+1) 0 a b:=by
 by_cases e:a=i
 ·subst e;simp[part]
 ·by_cases h:a<i
  ·simp[part,e,h,show a<i+1 by omega]
  ·simp[part,e,h,show ¬a<i+1 by omega]
theorem oS (n:Nat) (f:Nat->Nat->Int) (hn1:1<=n) (hn:n<=16) (hf: ∀i j,i<n->j<n->Sz (f i j) 1024):
  CallC Tryz.prog 50 [em (dp n n f)] ⟨[],tZ (detF n f)⟩:=by
 have hml:=ci n n f
 refine aC Tryz.func50 rfl (by kernel_rfl) ?_;rw[Tryz.ntmps50]
 (refine aa [] fun K hK=>?_;simp(disch:=omega) only[kc,ab,em,List.replicate,bs,aT,aI,aZ,Value.oneCell',Nat.reduceAdd,bL];apply hK)
 (refine aa [] fun K hK=>?_;simp(disch:=omega) only[kc,ab,Nat.reduceAdd,aq,ao,be,aD,hml];apply hK)
 (refine aa [] fun K hK=>?_;simp(disch:=omega) only[kc,ab,Nat.reduceAdd,ca,aT,aI,be,j5,cj,nJ,Int.natCast_nonneg,Value.oneCell',and_true,bL,au,Nat.reduceEqDiff];apply hK)
 (refine ae (aa [] fun K hK=>?_);simp(disch:=omega) only[kc,ab,Nat.reduceAdd,aq,ao,be,aD,hml,ac,Value.oneCell'];apply hK)
 refine bT (G:=uu n) (fun g=>⟨[jk,jk,.one (.ptr 2 0 0 0),.raw (.int .i64 (n:Int)),.one (.sl 18 0 0 n),jk,jk,jk,jk,jk,jk,jk,jk,jk,jk,jk,jk,jk,jk,em (dp n n f),.raw (.int .i64 (n:Int)),.raw (.int .i64 (g.i:Int)),jk,jk,jk,jk,jk,jk,jk,jk,jk,jk,jk,jk,jk,jk,jk,jk,jk,jk,jk,jk,jk,jk,jk,jk,jk,jk,jk,jk,jk,jk,jk,jk,jk,jk,jk,jk,jk,jk,jk,jk,jk,jk,jk,jk,jk,jk,jk,jk,jk,jk,jk,jk,jk,jk,jk,jk,jk,jk,jk,jk,jk,jk,jk,jk,jk,jk,jk,jk,jk,jk,jk,jk,jk,jk,jk,jk,jk,jk,jk,jk,jk,jk,jk,jk,jk,jk,jk,jk,jk,jk,jk,jk,jk,jk,jk,jk,jk,jk,jk,jk,jk,jk,jk,jk,jk,jk,jk,jk,jk,jk,jk,jk,jk,jk,jk,jk,jk,jk,jk,jk,jk,jk,jk,jk,jk,jk,jk],Hm [(2,pG),(18,ut 18 n n g.i (part f g.i 0))]⟩) (fun g=>n-g.i) ⟨0,by omega⟩ ?_ ?_
 ·refine(fy 18).trans (am ⟨rfl,qD 18 n n _,trivial⟩ ?_)
  simp[cu,bD,bA]
 ·rintro⟨i,hi⟩
  simp only
  by_cases hm:i<n
  ·have hr:=df n f hm
   have hg:=r7 (d:=18) (c:=n) hm
   (refine aa [] fun K hK=>?_;simp(disch:=omega) only[kc,ab,em,Hm,aj,ai,bE];apply hK)
   refine ae (af rfl (fun _=>ay ?_) (fun h=>by simp at h<;>omega))
   refine ae (aU ?_)
   (refine aa [] fun K hK=>?_;simp(disch:=omega) only[kc,ab,Nat.reduceAdd,ag,ao,an,be,bI,hr,fR,cj,ax,cq];apply hK)
   simp only[ut]
   (refine aa [] fun K hK=>?_;simp(disch:=omega) only[kc,ab,Nat.reduceAdd,ca,aT,aI,bQ,aZ,aF,kX,Int.natCast_nonneg,Value.oneCell',and_true,bL,Nat.reduceEqDiff,cH,ag,ao,an,be,au,cj,aB,dr,bN,hg,putCells,List.length_replicate,List.all_replicate,isPure,List.length_map,ci,aH,aL,Nat.reduceBEq];apply hK)
   refine bX.weak ((fy 18).trans (am (tm:=[jk,jk,.one (.ptr 2 0 0 0),.raw (.int .i64 (n:Int)),.one (.sl 18 0 0 n),.raw (.int .i64 (i:Int)),.one (.p (.sl (ls fZ (da n (f i))))),jk,jk,jk,jk,jk,jk,jk,jk,jk,jk,jk,jk,em (dp n n f),.raw (.int .i64 (n:Int)),.raw (.int .i64 (i:Int)),jk,jk,jk,jk,jk,jk,jk,jk,jk,jk,jk,jk,jk,jk,jk,jk,jk,jk,jk,jk,jk,jk,jk,jk,jk,jk,jk,jk,jk,jk,jk,jk,jk,jk,jk,jk,jk,jk,jk,jk,jk,jk,jk,jk,jk,jk,jk,jk,jk,jk,jk,jk,jk,jk,jk,jk,jk,jk,jk,jk,jk,jk,jk,jk,jk,jk,jk,jk,jk,jk,jk,jk,jk,jk,jk,jk,jk,jk,jk,jk,jk,jk,jk,jk,jk,jk,jk,jk,jk,jk,jk,jk,jk,jk,jk,jk,jk,jk,jk,jk,jk,jk,jk,jk,jk,jk,jk,jk,jk,jk,jk,jk,jk,jk,jk,jk,jk,jk,jk,jk,jk,jk,jk,jk,jk,jk,jk]) (l:=[(2,pG),(18,ut 18 n n (i+1) (part f i 0))]) ⟨rfl,sY (part f i 0) hm (fun b _=>by simp[part]),trivial⟩ (by simp[cu,bD,bA]))) ?_
   have a1:=wS (d:=18) (n:=n) (c:=n) (show i<i+1 by omega)
   have a2:=xv (d:=18) (n:=n) (c:=n) (show i+1<=n by omega)
   have a3:=et (n:=i+1) n (part f i 0) (show i<i+1 by omega)
   simp only[ut]
   refine yf 5 91 53 (.one (.p (.sl (ls fZ (da n (f i)))))) n 18 (i+1) ⟨53,2,lc fZ (da n (part f i 0 i))⟩ (lc fZ (da n (f i))) [] [] (by simp(disch:=omega) only[bQ]) (by simp(disch:=omega) only[aF]) (by omega) (by simp[fu,cL]) (by intro e he;obtain⟨z,_,rfl⟩:=List.mem_map.1 he;rfl) (by simp) (by decide) fun K hK=>?_
   simp(disch:=omega) only[kc,ab,Nat.reduceAdd,em,Hm,ag,ao,an,be,Nat.reduceEqDiff,cj,bL,a1,ax,cq]
   apply hK
   clear hK K
   refine⟨⟨rfl,a3,by simp[newsOf,Ab],by simp[fu,cL]⟩,by simp,?_⟩
   intro K hK
   simp(disch:=omega) only[kc,Nat.reduceAdd,yO,CM,Nat.reduceEqDiff]
   apply hK
   clear hK K
   show bX _ _ _ _
   ((refine aX [] [] (by simp) fun K hK=>?_);simp(disch:=omega) only[kc,ab,aj,ac,Value.oneCell',ai,bC];apply hK)
   refine⟨⟨i+1,by omega⟩,by simp only;omega,am ⟨rfl,?_,trivial⟩ ?_⟩
   ·show _::_=_::_
    rw[B8,dC fun a b _ _=>xZ f i a b]
   ·simp[cu,bD,bA]
  ·have hin:i=n:=by omega
   subst i
   have hS:=tn 1 (by omega) (by omega)
   rw[tN]
   have e:js 18 n n (part f n 0)=js 18 n n f:=by
    show _::_=_::_
    rw[dC fun a b ha _=>lI f a b ha]
   rw[e]
   (refine aa [] fun K hK=>?_;simp(disch:=omega) only[kc,ab,em,Hm,aj,ai,bj];apply hK)
   refine ae (af rfl (fun h=>by simp at h<;>omega) (fun _=>bF ?_))
   show bX _ _ _ _
   (refine aa [] fun K hK=>?_;simp(disch:=omega) only[kc,ab,ac,Value.oneCell'];apply hK)
   (refine aa [⟨0,_,_,_,hS⟩] fun K hK=>?_;simp(disch:=omega) only[kc,tZ,bj,ar.a,ab,Nat.reduceAdd,ak,aT,aI,List.find?_cons,aQ,ac,Value.oneCell',bo,CallRes.plain,aR,aV,az,noRefTV,ap,aS,aP,bs,aZ,bL,Nat.reduceEqDiff,cH,aB,dr,bN,aF,au,cellsOf,Nat.le_refl,isPure,putCells,aH,aL];apply hK)
   (refine ae (aa [] fun K hK=>?_);simp(disch:=omega) only[kc,ab,ac,Value.oneCell'];apply hK)
   refine bT (G:=Ft n f) (fun g=>⟨[jk,jk,.one (.ptr 2 0 0 0),.raw (.int .i64 (n:Int)),.one (.sl 18 0 0 n),jk,jk,.raw (.bool g.neg),.one (.ptr 8 0 0 0),jk,jk,jk,jk,jk,jk,jk,jk,jk,jk,jk,jk,jk,jk,jk,jk,jk,jk,jk,jk,jk,jk,jk,jk,jk,jk,jk,jk,jk,jk,.raw (.int .i64 (n:Int)),.raw (.int .i64 (g.k:Int)),jk,jk,jk,jk,jk,jk,jk,jk,jk,jk,jk,jk,jk,jk,jk,jk,jk,jk,jk,jk,jk,jk,jk,jk,jk,jk,jk,jk,jk,jk,jk,jk,jk,jk,jk,jk,jk,jk,jk,jk,jk,jk,jk,jk,jk,jk,jk,jk,jk,jk,jk,jk,jk,jk,jk,jk,jk,jk,jk,jk,jk,jk,jk,jk,jk,jk,jk,jk,jk,jk,jk,jk,jk,jk,jk,jk,jk,jk,jk,jk,jk,jk,jk,jk,jk,jk,jk,jk,jk,jk,jk,jk,jk,jk,jk,jk,jk,jk,jk,jk,jk,jk,jk,jk,jk,jk,jk,jk],Hm [(2,pG),(8,ww g.last),(18,js 18 n n g.g)]⟩) (fun g=>n-g.k) ⟨0,f,1,false,1024,by omega,rfl,by omega,by omega,hf,nR (by omega)⟩ ?_ ?_
   ·refine am ⟨rfl,rfl,rfl,trivial⟩ ?_
    simp[cu,bD,bA]
   ·rintro⟨k,g,last,neg,b,hk,hv,hl,hb,sgz,slz⟩
    simp only
    by_cases hm:k<n
    ·have h2k:=iE (k:=k) (by omega)
     have hbb:b<=67174400:=by omega
     have hvk:detG n k g last neg=if piv g n k k=n then 0 else detG n (k+1) (zQ k last (BK n k g)) (BK n k g k k) (neg !=decide (k<piv g n k k)):=by rw[detG,if_pos hm]
     (refine aa [] fun K hK=>?_;simp(disch:=omega) only[kc,ab,Hm,aj,ai,bE];apply hK)
     refine ae (af rfl (fun _=>ay ?_) (fun h=>by simp at h<;>omega))
     refine ae (aU ?_)
     (refine aa [] fun K hK=>?_;simp(disch:=omega) only[kc,ab];apply hK)
     (refine aa [] fun K hK=>?_;simp(disch:=omega) only[kc,ab];apply hK)
     refine ae (jg (S:=⟨[jk,jk,.one (.ptr 2 0 0 0),.raw (.int .i64 (n:Int)),.one (.sl 18 0 0 n),jk,jk,.raw (.bool neg),.one (.ptr 8 0 0 0),.raw (.int .i64 (k:Int)),.raw (.int .i64 ((piv g n k k:Nat):Int)),jk,jk,jk,jk,jk,jk,jk,jk,jk,jk,jk,jk,jk,jk,jk,jk,jk,jk,jk,jk,jk,jk,jk,jk,jk,jk,jk,jk,.raw (.int .i64 (n:Int)),.raw (.int .i64 (k:Int)),jk,jk,jk,jk,jk,jk,jk,jk,jk,jk,jk,jk,jk,jk,jk,jk,jk,jk,jk,jk,jk,jk,jk,jk,jk,jk,jk,jk,jk,jk,jk,jk,jk,jk,jk,jk,jk,jk,jk,jk,jk,jk,jk,jk,jk,jk,jk,jk,jk,jk,jk,jk,jk,jk,jk,jk,jk,jk,jk,jk,jk,jk,jk,jk,jk,jk,jk,jk,jk,jk,jk,jk,jk,jk,jk,jk,jk,jk,jk,jk,jk,jk,jk,jk,jk,jk,jk,jk,jk,jk,jk,jk,jk,jk,jk,jk,jk,jk,jk,jk,jk,jk,jk,jk,jk,jk,jk,jk],Hm [(2,pG),(8,ww last),(18,js 18 n n g)]⟩) ?_ ?_)
     ·refine bT (G:=Fp n k g) (fun q=>⟨[jk,jk,.one (.ptr 2 0 0 0),.raw (.int .i64 (n:Int)),.one (.sl 18 0 0 n),jk,jk,.raw (.bool neg),.one (.ptr 8 0 0 0),.raw (.int .i64 (k:Int)),.raw (.int .i64 (q.p:Int)),jk,jk,jk,jk,jk,jk,jk,jk,jk,jk,jk,jk,jk,jk,jk,jk,jk,jk,jk,jk,jk,jk,jk,jk,jk,jk,jk,jk,.raw (.int .i64 (n:Int)),.raw (.int .i64 (k:Int)),jk,jk,jk,jk,jk,jk,jk,jk,jk,jk,jk,jk,jk,jk,jk,jk,jk,jk,jk,jk,jk,jk,jk,jk,jk,jk,jk,jk,jk,jk,jk,jk,jk,jk,jk,jk,jk,jk,jk,jk,jk,jk,jk,jk,jk,jk,jk,jk,jk,jk,jk,jk,jk,jk,jk,jk,jk,jk,jk,jk,jk,jk,jk,jk,jk,jk,jk,jk,jk,jk,jk,jk,jk,jk,jk,jk,jk,jk,jk,jk,jk,jk,jk,jk,jk,jk,jk,jk,jk,jk,jk,jk,jk,jk,jk,jk,jk,jk,jk,jk,jk,jk,jk,jk,jk,jk,jk,jk],Hm [(2,pG),(8,ww last),(18,js 18 n n g)]⟩) (fun q=>n-q.p) ⟨k,by omega,by omega,rfl⟩ ?_ ?_
      ·refine am ⟨rfl,rfl,rfl,trivial⟩ ?_
       simp[cu,bD,bA]
      ·rintro⟨p,hkp,hp,hpv⟩
       simp only
       by_cases hpn:p<n
       ·have g1:=dj (n:=n) (i:=p) 18 n hpn
        have g2:=et n g hpn
        have g3:=ce (g p) hm
        have hSg:=Dc (g p k) ((sgz p k hpn hm).mono (by omega))
        by_cases h0:g p k=0
        ·rw[h0]at hSg g3
         (refine ae (aa [⟨11,_,_,_,hSg⟩] fun K hK=>?_);simp(disch:=omega) only[kc,tZ,bj,xc,ar.a,ab,Nat.reduceAdd,Hm,aj,ai,bE,aA,ag,ao,an,be,Nat.reduceEqDiff,bL,cH,cj,g1,ax,cq,bQ,g2,aF,b8,fZ,g3,aW,Nat.le_refl,ak,aT,aI,List.find?_cons,aQ,bo,CallRes.plain,aR,aV,az,isPure,noRefTV,ap,aS,aP,ac,Value.oneCell',aM];apply hK)
         refine af rfl (fun _=>ay ?_) (fun h=>by simp at h)
         refine aU ?_
         ((refine aX [] [] (by simp) fun K hK=>?_);simp(disch:=omega) only[kc,ab,Nat.reduceAdd,aj,ac,Value.oneCell',ai,bC];apply hK)
         refine⟨⟨p+1,by omega,by omega,?_⟩,by simp only;omega,am ⟨rfl,rfl,rfl,trivial⟩ ?_⟩
         ·rw[<- hpv,mo hpn h0]
         ·simp[cu,bD,bA]
        ·have hs0:=DA h0
         (refine ae (aa [⟨11,_,_,_,hSg⟩] fun K hK=>?_);simp(disch:=omega) only[kc,tZ,ar.a,ab,Nat.reduceAdd,Hm,aj,ai,bE,aA,ag,ao,an,be,Nat.reduceEqDiff,bL,cH,cj,g1,ax,cq,bQ,g2,aF,b8,fZ,g3,aW,Nat.le_refl,ak,aT,aI,List.find?_cons,aQ,bo,CallRes.plain,aR,aV,az,isPure,noRefTV,ap,aS,aP,ac,Value.oneCell',bj,aM];apply hK)
         refine af rfl (fun h=>by simp at h<;>omega) (fun _=>bF ?_)
         show du _ _
         have hpe:piv g n k k=p:=by rw[<- hpv,mB hpn h0]
         refine am ⟨rfl,rfl,rfl,trivial⟩ ?_
         simp[cu,bD,bA,hpe]
       ·have hpe:piv g n k k=p:=by rw[<- hpv,j9 hpn];omega
        (refine ae (aa [] fun K hK=>?_);simp(disch:=omega) only[kc,ab,Nat.reduceAdd,Hm,aj,ai,bj,aA,ag,ao,Option.map_none,ak,aT,aI,List.find?_nil,aQ,ac,Value.oneCell',aM];apply hK)
        refine af rfl (fun h=>by simp at h) (fun _=>bF ?_)
        show du _ _
        refine am ⟨rfl,rfl,rfl,trivial⟩ ?_
        simp[cu,bD,bA,hpe]
     ·have hpl:=rb (f:=g) (n:=n) (k:=k) (n-k) k rfl
      have hpn':=uM (f:=g) (n:=n) (k:=k) (n-k) k rfl
      generalize hpp:piv g n k k=p at*
      by_cases hpn:p=n
      ·rw[if_pos hpn]at hvk
       (refine ae (aa [] fun K hK=>?_);simp(disch:=omega) only[kc,ab,Nat.reduceAdd,Hm,aj,ai,bE];apply hK)
       refine af rfl (fun _=>?_) (fun h=>by simp at h<;>omega)
       (refine aa [] fun K hK=>?_;simp(disch:=omega) only[kc,ab,eh,ao,aZ,eI,Value.oneCell',ex,aB,dr,bN,aF,Nat.reduceEqDiff,cH,cellsOf,Nat.reduceAdd,Nat.le_refl,isPure,bL,putCells,aH,aL];apply hK)
       refine bX.weak (fy 2) ?_
       refine aE ⟨.inr rfl,aJ rfl ?_ rfl⟩
       rw[<- hv,hvk]
       simp(disch:=omega) only[kc,bK,Tryz.results50,aN,zH,au,Nat.reduceEqDiff,cH,bL,zO,ur,uG,ax,aF,aW,Nat.reduceAdd,Nat.le_refl,tZ,bj]
       simp[cD,ls]
      ·rw[if_neg hpn]at hvk
       obtain⟨hkp,hpk0⟩:=hpn' (by omega)
       (refine ae (aa [] fun K hK=>?_);simp(disch:=omega) only[kc,ab,Nat.reduceAdd,Hm,aj,ai,bj];apply hK)
       refine af rfl (fun h=>by simp at h<;>omega) (fun _=>ay ?_)
       show bX _ _ _ _
       (refine ae (aa [] fun K hK=>?_);simp(disch:=omega) only[kc,ab,Nat.reduceAdd,aj,ai];apply hK)
       refine jg (S:=⟨[jk,jk,.one (.ptr 2 0 0 0),.raw (.int .i64 (n:Int)),.one (.sl 18 0 0 n),jk,jk,.raw (.bool (neg !=decide (k<p))),.one (.ptr 8 0 0 0),.raw (.int .i64 (k:Int)),jk,jk,jk,jk,jk,jk,jk,jk,jk,jk,jk,jk,jk,jk,jk,jk,jk,jk,jk,jk,jk,jk,jk,jk,jk,jk,jk,jk,jk,.raw (.int .i64 (n:Int)),.raw (.int .i64 (k:Int)),jk,jk,jk,jk,jk,jk,jk,jk,jk,jk,jk,jk,jk,jk,jk,jk,jk,jk,jk,jk,jk,jk,jk,jk,jk,jk,jk,jk,jk,jk,jk,jk,jk,jk,jk,jk,jk,jk,jk,jk,jk,jk,jk,jk,jk,jk,jk,jk,jk,jk,jk,jk,jk,jk,jk,jk,jk,jk,jk,jk,jk,jk,jk,jk,jk,jk,jk,jk,jk,jk,jk,jk,jk,jk,jk,jk,jk,jk,jk,jk,jk,jk,jk,jk,jk,jk,jk,jk,jk,jk,jk,jk,jk,jk,jk,jk,jk,jk,jk,jk,jk,jk,jk,jk,jk,jk,jk,jk],Hm [(2,pG),(8,ww last),(18,js 18 n n (swp p k g))]⟩) ?_ ?_
       ·by_cases hlt:k<p
        ·have g1:=dj (n:=n) (i:=p) 18 n (by omega)
         have g2:=dj (n:=n) (i:=k) 18 n (by omega)
         refine af rfl (fun _=>?_) (fun h=>by simp at h<;>omega)
         have g4:((gd 18 (List.replicate n n)).set k [.sl 18 (p+1) 0 n])[p]?=some [.sl 18 (p+1) 0 n]:=by
          rw[List.getElem?_set_ne (by omega),g1]
         have hsw:=xf (d:=18) g (by omega:p<n) hm (by omega)
         rw[List.set_comm _ _ (by omega:p≠k)]at hsw
         (refine bM bU [] [] (by kernel_rfl) (by simp) fun K hK=>?_;simp(disch:=omega) only[kc,ab,Nat.reduceAdd,bj,Bool.not_false,ag,ao,an,be,Nat.reduceEqDiff,cH,cj,bL,g1,ax,cq,g2,aB,dr,bN,putCells,aH,aL,au,g4,reduceCtorEq,false_and,List.length_map];apply hK)
         ((refine aX [] [] (by simp) fun K hK=>?_);simp(disch:=omega) only[kc,ab,Nat.reduceAdd,cX,aj,eA];apply hK)
         refine(wO 18 (p+1) (k+1) (js 18 n n (swp p k g)) hsw).trans (am ⟨rfl,rfl,rfl,trivial⟩ ?_)
         simp[cu,bD,bA,Dg,kT,nE,sw,hlt]
        ·have hpk:p=k:=by omega
         subst hpk
         refine af rfl (fun h=>by simp at h<;>omega) (fun _=>ay ?_)
         show du _ _
         rw[lg]
         refine am ⟨rfl,rfl,rfl,trivial⟩ ?_
         simp[cu,bD,bA]
       ·rw[BK,hpp]at hvk
        have hkk:swp p k g k k≠0:=by
         unfold swp
         by_cases h:k=p
         ·subst h;rw[if_pos rfl];exact hpk0
         ·rw[if_neg h,if_pos rfl];exact hpk0
        have hsz: ∀i j,i<n->j<n->Sz (swp p k g i j) b:=fun i j hi hj=>by
         unfold swp
         split
         ·exact sgz k j hm hj
         ·split
          ·exact sgz p j (by omega) hj
          ·exact sgz i j hi hj
        generalize swp p k g=g' at*
        generalize(neg !=decide (k<p))=neg' at*
        have b2:=dj (n:=n) (i:=k) 18 n hm
        have b4:=et n g' hm
        have b5:=ce (g' k) hm
        (refine aa [] fun K hK=>?_;simp(disch:=omega) only[kc,ab,Nat.reduceAdd,Hm,ag,ao,an,be,Nat.reduceEqDiff,cH,cj,bL,b2,ax,cq,bQ,b4,aF,b8,fZ,b5,aW,Nat.le_refl,bs,aT,aI,aZ,Value.oneCell',aB,dr,bN,au,cellsOf,isPure,putCells,aH,aL];apply hK)
        (refine ae (aa [] fun K hK=>?_);simp(disch:=omega) only[kc,ab,Nat.reduceAdd,aj,ac,Value.oneCell',ai,bC];apply hK)
        refine bT (G:=Fb n k) (fun q=>⟨[jk,jk,.one (.ptr 2 0 0 0),.raw (.int .i64 (n:Int)),.one (.sl 18 0 0 n),jk,jk,.raw (.bool neg'),.one (.ptr 8 0 0 0),.raw (.int .i64 (k:Int)),jk,.one (.ptr 11 0 0 0),.raw (.int .i64 (q.i:Int)),jk,jk,jk,jk,jk,jk,jk,jk,jk,jk,jk,jk,jk,jk,jk,jk,jk,jk,jk,jk,jk,jk,jk,jk,jk,jk,.raw (.int .i64 (n:Int)),.raw (.int .i64 (k:Int)),jk,jk,jk,jk,jk,jk,jk,jk,jk,jk,jk,jk,jk,jk,jk,jk,jk,jk,jk,jk,jk,jk,jk,jk,jk,jk,jk,jk,jk,jk,jk,jk,jk,jk,jk,jk,jk,jk,jk,jk,jk,jk,jk,jk,jk,jk,jk,jk,jk,jk,jk,jk,jk,jk,jk,jk,jk,jk,jk,jk,jk,jk,jk,jk,jk,jk,jk,jk,jk,jk,jk,jk,jk,jk,jk,jk,jk,jk,jk,jk,jk,jk,jk,jk,jk,jk,jk,jk,jk,jk,jk,jk,jk,jk,jk,jk,jk,jk,jk,jk,jk,jk,jk,jk,jk,jk,jk,jk],Hm [(2,pG),(8,ww last),(11,ww (g' k k)),(18,js 18 n n (dI k last g' q.i (k+1)))]⟩) (fun q=>n-q.i) ⟨k+1,by omega,by omega⟩ ?_ ?_
        ·rw[vV]
         refine am ⟨rfl,rfl,rfl,rfl,trivial⟩ ?_
         simp[cu,bD,bA]
        ·rintro⟨i,hki,hin⟩
         simp only
         by_cases hi:i<n
         ·(refine ae (aa [] fun K hK=>?_);simp(disch:=omega) only[kc,ab,Nat.reduceAdd,Hm,aj,ai,bE];apply hK)
          refine af rfl (fun _=>ay ?_) (fun h=>by simp at h<;>omega)
          refine ae (aU ?_)
          (refine aa [] fun K hK=>?_;simp(disch:=omega) only[kc,ab,Nat.reduceAdd,aj,ac,Value.oneCell',ai,bC];apply hK)
          refine bT (G:=Fb n k) (fun q=>⟨[jk,jk,.one (.ptr 2 0 0 0),.raw (.int .i64 (n:Int)),.one (.sl 18 0 0 n),jk,jk,.raw (.bool neg'),.one (.ptr 8 0 0 0),.raw (.int .i64 (k:Int)),jk,.one (.ptr 11 0 0 0),.raw (.int .i64 (i:Int)),.raw (.int .i64 (q.i:Int)),jk,jk,jk,jk,jk,jk,jk,jk,jk,jk,jk,jk,jk,jk,jk,jk,jk,jk,jk,jk,jk,jk,jk,jk,jk,.raw (.int .i64 (n:Int)),.raw (.int .i64 (k:Int)),jk,jk,jk,jk,jk,jk,jk,jk,jk,jk,jk,jk,jk,jk,jk,jk,jk,jk,jk,jk,jk,jk,jk,jk,jk,jk,jk,jk,jk,jk,jk,jk,jk,jk,jk,jk,jk,jk,jk,jk,jk,jk,jk,jk,jk,jk,jk,jk,jk,jk,jk,jk,jk,jk,jk,jk,jk,jk,jk,jk,jk,jk,jk,jk,jk,jk,jk,jk,jk,jk,jk,jk,jk,jk,jk,jk,jk,jk,jk,jk,jk,jk,jk,jk,jk,jk,jk,jk,jk,jk,jk,jk,jk,jk,jk,jk,jk,jk,jk,jk,jk,jk,jk,jk,jk,jk,jk,jk],Hm [(2,pG),(8,ww last),(11,ww (g' k k)),(18,js 18 n n (dI k last g' i q.i))]⟩) (fun q=>n-q.i) ⟨k+1,by omega,by omega⟩ ?_ ?_
          ·refine am ⟨rfl,rfl,rfl,rfl,trivial⟩ ?_
           simp[cu,bD,bA]
          ·rintro⟨j,hkj,hjn⟩
           simp only
           by_cases hj:j<n
           ·have a1:=dj (n:=n) (i:=i) 18 n hi
            have a2:=dj (n:=n) (i:=k) 18 n hm
            have a3:=et n (dI k last g' i j) hi
            have a4:=et n (dI k last g' i j) hm
            have a5:(da n (dI k last g' i j k))[k]?=some (g' k k):=by rw[ce _ hm,fJ _ _ (by omega)]
            have a6:(da n (dI k last g' i j i))[j]?=some (g' i j):=by rw[ce _ hj,fJ _ _ (by omega)]
            have a7:(da n (dI k last g' i j i))[k]?=some (g' i k):=by rw[ce _ hm,fJ _ _ (by omega)]
            have a8:(da n (dI k last g' i j k))[j]?=some (g' k j):=by rw[ce _ hj,fJ _ _ (by omega)]
            have z1:=hsz k k hm hm
            have z2:=hsz i j hi hj
            have z3:=hsz i k hi hm
            have z4:=hsz k j hm hj
            have c1:=AX (g' k k) (g' i j) (z1.mono (by omega)) (z2.mono (by omega))
            have c2:=AX (g' i k) (g' k j) (z3.mono (by omega)) (z4.mono (by omega))
            have c3:=DS (g' k k*g' i j) (g' i k*g' k j) ((z1.mul z2).mono (by omega)) ((z3.mul z4).mono (by omega))
            have c4:=xA (g' k k*g' i j-g' i k*g' k j) last hl (((z1.mul z2).sub (z3.mul z4)).mono (by omega)) (slz.mono (by omega))
            (refine ae (aa [] fun K hK=>?_);simp(disch:=omega) only[kc,ab,Nat.reduceAdd,Hm,aj,ai,bE];apply hK)
            refine af rfl (fun _=>ay ?_) (fun h=>by simp at h<;>omega)
            refine ae (aU ?_)
            (refine bM bU [⟨8,_,_,_,c1⟩,⟨23,_,_,_,c2⟩,⟨24,_,_,_,c3⟩] [] (by kernel_rfl) (by simp) fun K hK=>?_;simp(disch:=omega) only[kc,tZ,ar.a,ab,Nat.reduceAdd,ao,Nat.reduceEqDiff,cH,ax,aF,aW,Nat.le_refl,ag,an,be,cj,bL,a1,cq,bQ,a3,b8,fZ,a6,ak,aT,aI,List.find?_cons,aQ,bo,CallRes.plain,aR,aV,az,isPure,noRefTV,ap,aS,aP,a7,a2,a4,a8,Nat.reduceBEq,bs,aZ,Value.oneCell',aB,dr,bN,au,cellsOf,putCells,aH,aL];apply hK)
            ((refine fB bU [⟨7,_,_,_,c4⟩] [] (by kernel_rfl) (by simp) fun K hK=>?_);simp(disch:=omega) only[kc,tZ,cZ,ar.a,ab,Nat.reduceAdd,ag,ao,an,be,au,Nat.reduceEqDiff,cH,cj,bL,a1,ax,cq,aF,aW,Nat.le_refl,ak,aT,aI,List.find?_cons,aQ,bo,CallRes.plain,aR,aV,az,isPure,noRefTV,ap,aS,aP,bz,aj,bQ,a3,aB,dr,bN,b8,fZ,a6,cellsOf,putCells,nH,aH,aL];apply hK)
            show bX _ _ _ _
            ((refine aX [] [] (by simp) fun K hK=>?_);simp(disch:=omega) only[kc,ab,Nat.reduceAdd,aj,ac,Value.oneCell',ai,bC];apply hK)
            refine⟨⟨j+1,by omega,by omega⟩,by simp only;omega,am ⟨rfl,rfl,rfl,?_,trivial⟩ ?_⟩
            ·show _::_=_::_
             rw[dC fun a b _ _=>xz last g' hki hkj a b]
            ·simp[cu,bD,bA]
           ·have hjn':j=n:=by omega
            subst hjn'
            (refine ae (aa [] fun K hK=>?_);simp(disch:=omega) only[kc,ab,Nat.reduceAdd,Hm,aj,ai,bj];apply hK)
            refine af rfl (fun h=>by simp at h<;>omega) (fun _=>bF ?_)
            show bX _ _ _ _
            ((refine aX [] [] (by simp) fun K hK=>?_);simp(disch:=omega) only[kc,ab,Nat.reduceAdd,aj,ac,Value.oneCell',ai,bC];apply hK)
            refine⟨⟨i+1,by omega,by omega⟩,by simp only;omega,am ⟨rfl,rfl,rfl,?_,trivial⟩ ?_⟩
            ·show _::_=_::_
             rw[dC fun a b _ hb=>AF last g' i a b hb]
            ·simp[cu,bD,bA]
         ·have hin':i=n:=by omega
          subst hin'
          have a2:=dj (n:=i) (i:=k) 18 i hm
          have a4:=et i (dI k last g' i (k+1)) hm
          have a5:(da i (dI k last g' i (k+1) k))[k]?=some (g' k k):=by rw[ce _ hm,fJ _ _ (by omega)]
          (refine ae (aa [] fun K hK=>?_);simp(disch:=omega) only[kc,ab,Nat.reduceAdd,Hm,aj,ai,bj];apply hK)
          refine af rfl (fun h=>by simp at h<;>omega) (fun _=>bF ?_)
          show bX _ _ _ _
          ((refine aX [] [] (by simp) fun K hK=>?_);simp(disch:=omega) only[kc,ab,ao,Nat.reduceEqDiff,cH,ax,aF,aW,Nat.reduceAdd,Nat.le_refl,aB,dr,bN,cellsOf,isPure,bL,putCells,aH,aL];apply hK)
          show bX _ _ _ _
          ((refine aX [] [] (by simp) fun K hK=>?_);simp(disch:=omega) only[kc,ab,aj,ac,Value.oneCell',ai,bC];apply hK)
          refine⟨⟨k+1,zQ k last g',g' k k,neg',2*b+1,by omega,by rw[<- hvk,hv],hkk,by rw[Nat.pow_succ];omega,fun x y hx hy=>?_,(hsz k k hm hm).mono (by omega)⟩,by simp only;omega,am ⟨rfl,rfl,?_,trivial⟩ ?_⟩
          ·unfold zQ
           split
           ·exact((((hsz k k hm hm).mul (hsz x y hx hy)).sub ((hsz x k hx hm).mul (hsz k y hm hy))).ediv last).mono (by omega)
           ·exact(hsz x y hx hy).mono (by omega)
          ·show _::_=_::_
           rw[dC fun a b ha _=>AQ last g' a b ha]
          ·simp[cu,bD,bA]
    ·have hkn:k=n:=by omega
     subst hkn
     rw[detG,if_neg hm]at hv
     have h2k:=iE (k:=k) hn
     have hN:=DW last (slz.mono (by omega))
     have hNo:=rZ last (slz.mono (by omega))
     (refine aa [] fun K hK=>?_;simp(disch:=omega) only[kc,ab,Hm,aj,ai,bj];apply hK)
     refine ae (af rfl (fun h=>by simp at h<;>omega) (fun _=>bF ?_))
     show bX _ _ _ _
     (refine ae (aa [] fun K hK=>?_);simp(disch:=omega) only[kc,ab];apply hK)
     cases neg with
     |true=>
      rw[if_pos rfl]at hv
      refine af rfl (fun _=>?_) (fun h=>by simp at h)
      (refine aa [⟨1,_,_,_,hN⟩] fun K hK=>?_;simp(disch:=omega) only[kc,tZ,ar.a,ab,Nat.reduceAdd,ao,Nat.reduceEqDiff,cH,ax,aF,aW,Nat.le_refl,ak,aT,aI,List.find?_cons,aQ,bo,CallRes.plain,aR,aV,az,isPure,noRefTV,ap,aS,aP,aB,dr,bN,cellsOf,bL,putCells,aH,aL];apply hK)
      rw[<- hv]
      (refine aE ⟨.inr rfl,aJ rfl ?_ rfl⟩;simp(disch:=omega) only[kc,bK,Tryz.results50,aN,au,Nat.reduceEqDiff,cH,ax,aF,aW,Nat.reduceAdd,Nat.le_refl,tZ])
     |false=>
      rw[if_neg (by simp)]at hv
      refine af rfl (fun h=>by simp at h) (fun _=>ay ?_)
      show bX _ _ _ _
      (refine aa [⟨1,_,_,_,hNo⟩] fun K hK=>?_;simp(disch:=omega) only[kc,tZ,ar.a,ab,Nat.reduceAdd,ao,Nat.reduceEqDiff,cH,ax,aF,aW,Nat.le_refl,ak,aT,aI,List.find?_cons,aQ,bo,CallRes.plain,aR,aV,az,isPure,noRefTV,ap,aS,aP,aB,dr,bN,cellsOf,bL,putCells,aH,aL];apply hK)
      rw[<- hv]
      (refine aE ⟨.inr rfl,aJ rfl ?_ rfl⟩;simp(disch:=omega) only[kc,bK,Tryz.results50,aN,au,Nat.reduceEqDiff,cH,ax,aF,aW,Nat.reduceAdd,Nat.le_refl,tZ])
section
def Ew (k:Nat) (f:List Nat->Int):Prop:= ∀xs c d ys,xs.length+ys.length+2=k->f (xs++c::d::ys)= - f (xs++d::c::ys)
theorem Ew.cons {k:Nat} {f:List Nat->Int} (h:Ew (k+1) f) (c:Nat):Ew k (fun l=>f (c::l)):=fun xs a b ys hl=>h (c::xs) a b ys (by simp;omega)
theorem wI {r:Nat->Int}: ∀(cs:List Nat) {f g:List Nat->Int},(∀l,l.length+1=cs.length->f l= - g l)->dn r f cs= - dn r g cs
 |[],_,_,_=>rfl
 |c::cs,f,g,h=>by
  rw[dn,dn,h cs rfl,wI cs (f:=fun l=>f (c::l)) (g:=fun l=>g (c::l)) (fun l hl=>h (c::l) (by simp;omega))]
  grind
theorem wG {r:Nat->Int}: ∀(xs:List Nat) (k:Nat) (f:List Nat->Int),Ew k f-> ∀c d ys,xs.length+ys.length+2=k+1->dn r f (xs++c::d::ys)= - dn r f (xs++d::c::ys)
 |[],k,f,h,c,d,ys,hl=>by
  have e:=wI (r:=r) ys (f:=fun l=>f (c::d::l)) (g:=fun l=>f (d::c::l)) (fun l hl'=>h [] c d l (by simp at hl⊢;omega))
  simp only[List.nil_append,dn]
  rw[e]
  grind
 |x::xs,k,f,h,c,d,ys,hl=>by
  obtain⟨k,rfl⟩: ∃k',k=k'+1:=⟨k-1,by simp at hl;omega⟩
  simp only[List.cons_append,dn]
  rw[wG xs k _ (h.cons x) c d ys (by simp at hl;omega),h xs c d ys (by simp at hl;omega)]
  grind
theorem uH (R:Nat->Nat->Int): ∀k,Ew k (om R k)
 |0=>fun xs c d ys h=>by omega
 |k+1=>fun xs c d ys h=>wG xs k _ (uH R k) c d ys h
theorem r9 {k:Nat} {f:List Nat->Int} (h:Ew k f) (c:Nat) (ys:List Nat): ∀(xs zs:List Nat),zs.length+xs.length+ys.length+2=k->f (zs++c::(xs++c::ys))=0
 |[],zs,hl=>by
  have:=h zs c c ys (by simp at hl;omega)
  simp only[List.nil_append]
  omega
 |x::xs,zs,hl=>by
  have h1:=h zs c x (xs++c::ys) (by simp at hl⊢;omega)
  have h2:=r9 h c ys xs (zs++[x]) (by simp at hl⊢;omega)
  rw[List.append_assoc]at h2
  simp only[List.cons_append,List.nil_append]at h1 h2⊢
  rw[h1,h2];rfl
/-! Columns. -/
theorem ja {r s:Nat->Int}: ∀(cs:List Nat) {f g:List Nat->Int},cs.Nodup->(∀c∈cs,r c=s c)->(∀l,l.length+1=cs.length->(∀c∈l,c∈cs)->l.Nodup->f l=g l)->dn r f cs=dn s g cs
 |[],_,_,_,_,_=>rfl
 |c::cs,f,g,hn,h,hf=>by
  obtain⟨hc,hn'⟩:=List.nodup_cons.1 hn
  rw[dn,dn,h c List.mem_cons_self,hf cs rfl (fun d hd=>List.mem_cons_of_mem _ hd) hn',ja cs hn' (fun d hd=>h d (List.mem_cons_of_mem _ hd)) (fun l hl hs hl2=>hf (c::l) (by simp;omega) (fun d hd=>by
   rcases List.mem_cons.1 hd with rfl|hd
   ·exact List.mem_cons_self
   ·exact List.mem_cons_of_mem _ (hs d hd)) (List.nodup_cons.2 ⟨fun h=>hc (hs c h),hl2⟩))]
def fm (R:Nat->Nat->Int) (a:Nat) (S:Nat->Int):Nat->Nat->Int:=fun i c=>if c=a then S i else R i c
theorem ma (R:Nat->Nat->Int) (a:Nat):fm R a (fun i=>R i a)=R:=by
 funext i c
 unfold fm
 split
 ·rename_i h;rw[h]
 ·rfl
theorem wj {a:Nat} {u t s s':Int} {r:Nat->Int}: ∀(cs:List Nat) (f fS fT:List Nat->Int),cs.Nodup->a∈cs->
  (∀l,l.length+1=cs.length->(∀c∈l,c∈cs)->l.Nodup->(a∈l->f l=u*fS l+t*fT l)/\(a∉l->fS l=f l/\fT l=f l))->
  dn (fun c=>if c=a then u*s+t*s' else r c) f cs=u*dn (fun c=>if c=a then s else r c) fS cs+t*dn (fun c=>if c=a then s' else r c) fT cs
 |[],_,_,_,_,h,_=>by simp at h
 |c::cs,f,fS,fT,hn,ha,h=>by
  obtain⟨hc,hn'⟩:=List.nodup_cons.1 hn
  have hsub: ∀l:List Nat,(∀c∈l,c∈cs)-> ∀d∈c::l,d∈c::cs:=fun l hs d hd=>by
   rcases List.mem_cons.1 hd with rfl|hd
   ·exact List.mem_cons_self
   ·exact List.mem_cons_of_mem _ (hs d hd)
  obtain⟨h1,h2⟩:=h cs rfl (fun d hd=>List.mem_cons_of_mem _ hd) hn'
  rw[dn,dn,dn]
  by_cases e:c=a
  ·subst e
   obtain⟨h3,h4⟩:=h2 hc
   have e0: ∀d∈cs,d≠c:=fun d hd e=>hc (e▸hd)
   have e1:dn (fun d=>if d=c then u*s+t*s' else r d) (fun l=>f (c::l)) cs=dn r (fun l=>u*fS (c::l)+t*fT (c::l)) cs:=
    ja cs hn' (fun d hd=>by simp[e0 d hd]) (fun l hl hs hl2=>(h (c::l) (by simp;omega) (hsub l hs) (List.nodup_cons.2 ⟨fun h=>hc (hs c h),hl2⟩)).1 List.mem_cons_self)
   have e2:dn (fun d=>if d=c then s else r d) (fun l=>fS (c::l)) cs=dn r (fun l=>fS (c::l)) cs:=ja cs hn' (fun d hd=>by simp[e0 d hd]) (fun _ _ _ _=>rfl)
   have e3:dn (fun d=>if d=c then s' else r d) (fun l=>fT (c::l)) cs=dn r (fun l=>fT (c::l)) cs:=ja cs hn' (fun d hd=>by simp[e0 d hd]) (fun _ _ _ _=>rfl)
   rw[e1,e2,e3,mc,h3,h4]
   simp only[if_pos]
   grind
  ·have ha':a∈cs:=by
    rcases List.mem_cons.1 ha with h|h
    ·exact absurd h.symm e
    ·exact h
   have ih:=wj (u:=u) (t:=t) (s:=s) (s':=s') (r:=r) cs (fun l=>f (c::l)) (fun l=>fS (c::l)) (fun l=>fT (c::l)) hn' ha' (fun l hl hs hl2=>by
    obtain⟨q1,q2⟩:=h (c::l) (by simp;omega) (hsub l hs) (List.nodup_cons.2 ⟨fun h=>hc (hs c h),hl2⟩)
    exact⟨fun hal=>q1 (List.mem_cons_of_mem _ hal),fun hal=>q2 (fun h=>by
     rcases List.mem_cons.1 h with h|h
     ·exact e h.symm
     ·exact hal h)⟩)
   rw[ih,h1 ha']
   simp only[if_neg e]
   grind
theorem Ay {R:Nat->Nat->Int} {a:Nat} {u t:Int} {S T:Nat->Int}: ∀(k:Nat) (cs:List Nat),cs.Nodup->cs.length=k->a∈cs->
  om (fm R a (fun i=>u*S i+t*T i)) k cs=u*om (fm R a S) k cs+t*om (fm R a T) k cs
 |0,cs,_,hl,ha=>by rw[List.length_eq_zero_iff.1 hl]at ha;simp at ha
 |k+1,cs,hn,hl,ha=>by
  refine wj (r:=R k) (s:=S k) (s':=T k) cs _ _ _ hn ha (fun l hl' hs hl2=>⟨fun hal=>Ay k l hl2 (by omega) hal,fun hal=>?_⟩)
  have hne: ∀c∈l,c≠a:=fun c hc e=>hal (e▸hc)
  exact⟨kZ fun i _ c hc=>by simp[fm,hne c hc],kZ fun i _ c hc=>by simp[fm,hne c hc]⟩
theorem xl {r:Nat->Int} (p:Nat->Nat): ∀(cs:List Nat) (f:List Nat->Int),dn (fun c=>r (p c)) (fun l=>f (l.map p)) cs=dn r f (cs.map p)
 |[],_=>rfl
 |c::cs,f=>by
  rw[dn,List.map_cons,dn]
  have:=xl (r:=r) p cs (fun l=>f (p c::l))
  rw[<- this]
  rfl
theorem Ai {R:Nat->Nat->Int} (p:Nat->Nat): ∀(k:Nat) (cs:List Nat),om (fun i c=>R i (p c)) k cs=om R k (cs.map p)
 |0,_=>rfl
 |k+1,cs=>by
  have e:om (fun i c=>R i (p c)) k=fun l=>om R k (l.map p):=funext (Ai p k)
  show dn (fun c=>R k (p c)) (om (fun i c=>R i (p c)) k) cs=_
  rw[e,xl p cs (om R k)]
  rfl
theorem Bj {R:Nat->Nat->Int} {a b k:Nat} {cs:List Nat} (hn:cs.Nodup) (hl:cs.length=k) (ha:a∈cs) (hb:b∈cs) (hab:a≠b):om (fm R a (fun i=>R i b)) k cs=0:=by
 have e:fm R a (fun i=>R i b)=fun i c=>R i (if c=a then b else c):=by
  funext i c
  unfold fm
  split<;>rfl
 rw[e,Ai (R:=R) (fun c=>if c=a then b else c)]
 obtain⟨s,t,rfl⟩:=List.append_of_mem ha
 have hb':b∈s\/b∈t:=by
  rcases List.mem_append.1 hb with h|h
  ·exact .inl h
  ·rcases List.mem_cons.1 h with h|h
   ·exact absurd h.symm hab
   ·exact .inr h
 rcases hb' with h|h
 ·obtain⟨x,y,rfl⟩:=List.append_of_mem h
  simp only[List.map_append,List.map_cons,if_pos,if_neg (Ne.symm hab),List.append_assoc,List.cons_append]
  exact r9 (uH R k) b _ _ _ (by simp at hl⊢;omega)
 ·obtain⟨x,y,rfl⟩:=List.append_of_mem h
  simp only[List.map_append,List.map_cons,if_pos,if_neg (Ne.symm hab)]
  exact r9 (uH R k) b _ _ _ (by simp at hl⊢;omega)
theorem nW: ∀n,(jP n).length=n
 |0=>rfl
 |n+1=>by rw[jP,List.length_cons,nW n]
theorem mM: ∀n,(jP n).Nodup
 |0=>List.nodup_nil
 |n+1=>List.nodup_cons.2 ⟨fun h=>by have:=gY h;omega,mM n⟩
theorem sd {n c:Nat} (h:c<n):c∈jP n:=by
 induction n with
 |zero=>omega
 |succ n ih=>
  by_cases e:c=n
  ·rw[e];exact List.mem_cons_self
  ·exact List.mem_cons_of_mem _ (ih (by omega))
theorem qz {n p:Nat} (h:p<n): ∃hi,jP n=hi++p::jP p/\ ∀c∈hi,p<c:=by
 induction n with
 |zero=>omega
 |succ n ih=>
  by_cases e:p=n
  ·exact⟨[],by rw[e];rfl,fun c hc=>by simp at hc⟩
  ·obtain⟨hi,h1,h2⟩:=ih (by omega)
   exact⟨n::hi,by rw[jP,h1];rfl,fun c hc=>by
    rcases List.mem_cons.1 hc with rfl|hc
    ·omega
    ·exact h2 c hc⟩
section
variable {R:Nat->Nat->Int} {n a b:Nat} (ha:a<n)
include ha
theorem oI (u t:Int) (S T:Nat->Int):dk (fm R a (fun i=>u*S i+t*T i)) n=u*dk (fm R a S) n+t*dk (fm R a T) n:=Ay n _ (mM n) (nW n) (sd ha)
theorem sD (hb:b<n) (hab:a≠b):dk (fm R a (fun i=>R i b)) n=0:=Bj (mM n) (nW n) (sd ha) (sd hb) hab
theorem wF {S:Nat->Int} (h: ∀i,i<n->S i=0):dk (fm R a S) n=0:=by
 have h1:=oI (R:=R) (n:=n) ha 0 0 S S
 have h2:dk (fm R a S) n=dk (fm R a (fun i=>0*S i+0*S i)) n:=kY fun i j hi _=>by
  unfold fm
  split
  ·show S i=0*S i+0*S i
   rw[h i hi];rfl
  ·rfl
 rw[h2,h1];omega
theorem kd (hb:b<n) (hab:a≠b) (t:Int):dk (fm R a (fun i=>R i a+t*R i b)) n=dk R n:=by
 have h1:=oI (R:=R) (n:=n) ha 1 t (fun i=>R i a) (fun i=>R i b)
 rw[ma,sD ha hb hab]at h1
 simp only[Int.one_mul,Int.mul_zero,Int.add_zero]at h1
 exact h1
theorem qO:dk (fm R a (fun i=> - R i a)) n= - dk R n:=by
 have h1:=oI (R:=R) (n:=n) ha (-1) 0 (fun i=>R i a) (fun i=>R i a)
 rw[ma]at h1
 have e:(fun i=> -1*R i a+0*R i a)=fun i=> - R i a:=by funext i;omega
 rw[e]at h1
 rw[h1];omega
theorem wA: ∀(cs:List Nat) (g:List Nat->Int),(∀c∈cs,c≠a/\c<n)->dk (fm R a (fun i=>dn (R i) g cs)) n=0
 |[],g,_=>wF ha fun _ _=>rfl
 |c::cs,g,h=>by
  obtain⟨h1,h2⟩:=h c List.mem_cons_self
  have h3:=oI (R:=R) (n:=n) ha (g cs) (-1) (fun i=>R i c) (fun i=>dn (R i) (fun l=>g (c::l)) cs)
  rw[sD ha h2 (Ne.symm h1),wA cs _ (fun d hd=>h d (List.mem_cons_of_mem _ hd))]at h3
  have e:(fun i=>dn (R i) g (c::cs))=fun i=>g cs*R i c+ -1*dn (R i) (fun l=>g (c::l)) cs:=by
   funext i
   rw[dn]
   grind
  rw[e,h3];omega
end
theorem vq {R:Nat->Nat->Int} {n a b:Nat} (ha:a<n) (hb:b<n) (hab:a≠b):dk (fun i c=>if c=a then R i b else if c=b then R i a else R i c) n= - dk R n:=by
 have h1:=kd (R:=R) ha hb hab 1
 generalize hR1:fm R a (fun i=>R i a+1*R i b)=R1 at h1
 have h2:=kd (R:=R1) hb ha (Ne.symm hab) (-1)
 generalize hR2:fm R1 b (fun i=>R1 i b+ -1*R1 i a)=R2 at h2
 have h3:=kd (R:=R2) ha hb hab 1
 generalize hR3:fm R2 a (fun i=>R2 i a+1*R2 i b)=R3 at h3
 have h4:=qO (R:=R3) hb
 rw[h3,h2,h1]at h4
 rw[<- h4]
 congr 1
 funext i c
 subst hR3 hR2 hR1
 unfold fm
 by_cases e1:c=a
 ·subst e1;simp[hab];omega
 ·by_cases e2:c=b
  ·subst e2;simp[Ne.symm hab];omega
  ·simp[e1,e2]
theorem BZ {f:Nat->Nat->Int} {n k:Nat} (hk:k<n) (h: ∀i,k<=i->i<n->bk f k i k=0) (hd:dk f k≠0):dk f n=0:=by
 have hz:=wF (R:=f) hk (S:=fun i=>bk f k i k) (fun i hi=>by
  by_cases e:i<k
  ·exact iU f e k
  ·exact h i (by omega) hi)
 have h1:=oI (R:=f) (n:=n) hk (dk f k) (-1) (fun i=>f i k) (fun i=>dn (f i) (fun l=>om f k (k::l)) (jP k))
 rw[ma,wA hk _ _ (fun c hc=>by have:=gY hc;omega)]at h1
 have e:(fun i=>bk f k i k)=fun i=>dk f k*f i k+ -1*dn (f i) (fun l=>om f k (k::l)) (jP k):=by
  funext i
  unfold bk dk
  rw[dn]
  grind
 rw[<- e,hz]at h1
 have:dk f k*dk f n=0:=by omega
 rcases Int.mul_eq_zero.1 this with h|h
 ·exact absurd h hd
 ·exact h
/-! Rows exchanged. -/
def AU:List (Nat->Int)->List Nat->Int
 |[]=>fun _=>1
 |r::rs=>dn r (AU rs)
theorem vi (R:Nat->Nat->Int): ∀k,om R k=AU ((jP k).map R)
 |0=>rfl
 |k+1=>by rw[om,vi R k];rfl
theorem AC {l m:List (Nat->Int)} (h:l.Perm m): ∃e:Int,(e=1\/e= -1)/\ ∀cs,AU m cs=e*AU l cs:=by
 induction h with
 |nil=>exact⟨1,.inl rfl,fun cs=>by omega⟩
 | @cons r l₁ l₂ _ ih=>
  obtain⟨e,he,h⟩:=ih
  refine⟨e,he,fun cs=>?_⟩
  show dn r (AU l₂) cs=e*dn r (AU l₁) cs
  have:=mc r e 0 cs (AU l₁) (AU l₁)
  rw[show AU l₂=fun l=>e*AU l₁ l+0*AU l₁ l from funext fun l=>by rw[h l];omega,this]
  omega
 |swap r s l=>exact⟨-1,.inr rfl,fun cs=>by
   show dn r (dn s _) cs= -1*dn s (dn r _) cs
   rw[lL];omega⟩
 |trans _ _ ih1 ih2=>
  obtain⟨e1,he1,h1⟩:=ih1
  obtain⟨e2,he2,h2⟩:=ih2
  refine⟨e2*e1,?_,fun cs=>by rw[h2,h1,Int.mul_assoc]⟩
  rcases he1 with rfl|rfl<;>rcases he2 with rfl|rfl<;>decide
theorem D3 {f:Nat->Nat->Int} {n p k:Nat} (hp:p<n) (hk:k<=p):(dk (swp p k f) n).natAbs=(dk f n).natAbs:=by
 by_cases e:k=p
 ·subst e;rw[lg]
 have hkp:k<p:=by omega
 obtain⟨hi,h1,h2⟩:=qz hp
 obtain⟨mid,h3,h4⟩:=qz hkp
 have hmid: ∀c∈mid,c<p:=fun c hc=>gY (by rw[h3];exact List.mem_append_left _ hc)
 have sw: ∀c,c≠p->c≠k->swp p k f c=f c:=fun c a b=>by simp[swp,a,b]
 have swp1:swp p k f p=f k:=by simp[swp]
 have swk:swp p k f k=f p:=by simp[swp,e]
 have m1:hi.map (swp p k f)=hi.map f:=List.map_congr_left fun c hc=>by have:=h2 c hc;exact sw c (by omega) (by omega)
 have m2:mid.map (swp p k f)=mid.map f:=List.map_congr_left fun c hc=>by have:=h4 c hc;have:=hmid c hc;exact sw c (by omega) (by omega)
 have m3:(jP k).map (swp p k f)=(jP k).map f:=List.map_congr_left fun c hc=>by have:=gY hc;exact sw c (by omega) (by omega)
 have hperm:((jP n).map f).Perm ((jP n).map (swp p k f)):=by
  rw[h1,h3]
  simp only[List.map_append,List.map_cons,m1,m2,m3,swp1,swk]
  refine List.Perm.append_left _ ?_
  exact((List.perm_middle.cons _).trans (List.Perm.swap _ _ _)).trans (List.perm_middle.symm.cons _)
 obtain⟨e,he,h⟩:=AC hperm
 unfold dk
 rw[vi,vi,h]
 rcases he with rfl|rfl<;>omega
theorem tV {f:Nat->Nat->Int} {n k:Nat}: ∀m p,n-p=m->p<=n->(piv f n k p=n/\ ∀i,p<=i->i<n->f i k=0)\/(p<=piv f n k p/\piv f n k p<n/\f (piv f n k p) k≠0)
 |0,p,hm,hp=> .inl ⟨j9 (by omega),fun i h1 h2=>by omega⟩
 |m+1,p,hm,hp=>by
  by_cases h0:f p k=0
  ·rw[mo (by omega) h0]
   rcases tV (f:=f) (n:=n) (k:=k) m (p+1) (by omega) (by omega)with⟨h1,h2⟩|⟨h1,h2,h3⟩
   ·exact .inl ⟨h1,fun i hi hin=>by
     by_cases e:i=p
     ·rw[e];exact h0
     ·exact h2 i (by omega) hin⟩
   ·exact .inr ⟨by omega,h2,h3⟩
  ·rw[mB (by omega) h0]
   exact .inr ⟨Nat.le_refl _,by omega,h0⟩
theorem th {n:Nat}: ∀(m k:Nat) (f g:Nat->Nat->Int) (neg:Bool),n-k=m->k<=n->(∀t,t<k->dk f (t+1)≠0)->(∀i j,k<=i->i<n->k<=j->j<n->g i j=bk f k i j)->(detG n k g (dk f k) neg).natAbs=(dk f n).natAbs
 |0,k,f,g,neg,hm,hk,hd,hg=>by
  have:k=n:=by omega
  subst this
  rw[detG,if_neg (by omega)]
  cases neg<;>simp
 |m+1,k,f,g,neg,hm,hk,hd,hg=>by
  have hdk:dk f k≠0:=by
   cases k with
   |zero=>rw[j8];omega
   |succ k=>exact hd k (by omega)
  rw[detG,if_pos (show k<n by omega)]
  rcases tV (f:=g) (n:=n) (k:=k) (n-k) k rfl hk with⟨h1,h2⟩|⟨h1,h2,h3⟩
  ·rw[if_pos h1,BZ (by omega) (fun i hi hin=>by rw[<- hg i k hi hin (Nat.le_refl _) (by omega)];exact h2 i hi hin) hdk]
  ·rw[if_neg (by omega),BK]
   generalize piv g n k k=p at*
   have hom:om (swp p k f) k=om f k:=tw fun i hi=>by simp[swp,show i≠p by omega,show i≠k by omega]
   have hbk: ∀i j,k<=i->i<n->k<=j->j<n->swp p k g i j=bk (swp p k f) k i j:=fun i j hi hin hj hjn=>by
    unfold bk
    rw[hom]
    unfold swp
    split
    ·exact hg k j (Nat.le_refl _) (by omega) hj hjn
    ·split
     ·exact hg p j h1 h2 hj hjn
     ·exact hg i j hi hin hj hjn
   have hdl: ∀t,t<=k->dk (swp p k f) t=dk f t:=fun t ht=>kY fun i j hi _=>by simp[swp,show i≠p by omega,show i≠k by omega]
   have hkk:swp p k g k k=dk (swp p k f) (k+1):=by rw[hbk k k (Nat.le_refl _) (by omega) (Nat.le_refl _) (by omega),cQ]
   have hne:swp p k g k k≠0:=by
    have:swp p k g k k=g p k:=by
     unfold swp
     split
     ·rename_i h;rw[<- h]
     ·rw[if_pos rfl]
    rw[this];exact h3
   rw[hkk]
   have hd': ∀t,t<k+1->dk (swp p k f) (t+1)≠0:=fun t ht=>by
    by_cases e:t=k
    ·rw[e,<- hkk];exact hne
    ·rw[hdl _ (by omega)];exact hd t (by omega)
   rw[th m (k+1) (swp p k f) _ _ (by omega) (by omega) hd' (fun i j hi hin hj hjn=>?_),D3 h2 h1]
   have hs:=sylv (swp p k f) k (fun t ht=>hd' t (by omega)) i j
   rw[hdl k (Nat.le_refl _)]at hs
   show(if k<i/\k<j then _ else _)=_
   rw[if_pos ⟨by omega,by omega⟩,hkk,hbk i j (by omega) hin (by omega) hjn,hbk i k (by omega) hin (by omega) (by omega),hbk k j (by omega) (by omega) (by omega) hjn,<- hs,Int.mul_ediv_cancel_left _ hdk]
theorem oX (n:Nat) (f:Nat->Nat->Int):(detF n f).natAbs=(dk f n).natAbs:=
 th n 0 f f false rfl (by omega) (fun t ht=>by omega) fun i j _ _ _ _=>(fw f i j).symm
theorem DK (n:Nat):dk (fun i j=>if i=j then 1 else 0) n=1:=by
 induction n with
 |zero=>rfl
 |succ n ih=>
  rw[cQ,bk,dn,lS (jP n) _ (fun c hc=>by have:=gY hc;simp;omega)]
  unfold dk at ih
  rw[ih];simp
end
theorem zN {n c:Nat} {f:Nat->Nat->Int} (h: ∀i j,yX (f i j)):MI (dp n c f):=fun r hr z hz=>by
 obtain⟨i,hi,rfl⟩:=List.mem_map.1 hr
 obtain⟨j,hj,rfl⟩:=List.mem_map.1 hz
 exact h i j
def uR (M:List (List Int)):Prop:=sf M/\(M.headD []).length=M.length/\M.length<=8/\(dk (ent M) M.length).natAbs=1
open Classical in
noncomputable def mF (M:List (List Int)):Bool:=decide (uR M)
theorem tQ {M:List (List Int)} (h:uR M):mF M=true:=by simp[mF,h]
theorem lQ {M:List (List Int)} (h: ¬uR M):mF M=false:=by simp[mF,h]
theorem o6 {n:Nat} (f:Nat->Nat->Int) (hn1:1<=n) (hn:n<=8):uR (dp n n f)↔(dk f n).natAbs=1:=by
 have hl:=ci n n f
 have hh:=gJ (n:=n) (c:=n) f hn1
 have hd:dk (ent (dp n n f)) n=dk f n:=kY fun i j hi hj=>Cf f hi hj
 unfold uR
 rw[hl,hh,hd]
 exact⟨fun h=>h.2.2.2,fun h=>⟨nI f hn1 (by omega) hn1 (by omega),rfl,hn,h⟩⟩
theorem uR.eq {M:List (List Int)} (h:uR M):M=dp M.length M.length (ent M):=by
 have:=ri h.1
 rwa[h.2.1]at this
abbrev kK (z:Int) (b:Bool):TV:= .tup [(true,cZ z),(false,[.p (.raw (.bool b))])]
theorem wJ:cZ 0=[.p (.raw (.bool false)),.p (.sl [])]:=by unfold cZ;rw[show(0:Int).natAbs=0 from rfl,cD];rfl
theorem Es (n:Nat) (f:Nat->Nat->Int) (hn1:1<=n) (hn:n<=16) (hf: ∀i j,i<n->j<n->Sz (f i j) 1024):
  CallC Tryz.prog 21 [em (dp n n f)] ⟨[],kK (detF n f) true⟩:=by
 have hS:=sJ (dp n n f)
 rw[iW (nI f hn1 hn hn1 hn),ci,gJ f hn1]at hS
 have hD:=oS n f hn1 hn hf
 generalize detF n f=d at*
 refine aC Tryz.func21 rfl (by kernel_rfl) ?_;rw[Tryz.ntmps21]
 (refine aa [] fun K hK=>?_;simp(disch:=omega) only[kc,ab,em,List.replicate,bs,aT,aI,aZ,Value.oneCell',Nat.reduceAdd,bL,ac];apply hK)
 (refine aa [⟨1,_,_,_,hS⟩] fun K hK=>?_;simp(disch:=omega) only[kc,em,ar.a,ab,Nat.reduceAdd,ak,aT,aI,List.find?_cons,aQ,bo,CallRes.plain,aR,aV,az,noRefTV,ap,aS,aP,bz,aj];apply hK)
 (refine ae (aa [] fun K hK=>?_);simp(disch:=omega) only[kc,ab,Nat.reduceAdd,cX,aj,eA,aA,ai,bE,bL,aM];apply hK)
 refine af rfl (fun h=>by simp at h) (fun _=>ay ?_)
 show bX _ _ _ _
 (refine aa [⟨1,_,_,_,hD⟩] fun K hK=>?_;simp(disch:=omega) only[kc,em,tZ,ar.a,ab,Nat.reduceAdd,ak,aT,aI,List.find?_cons,aQ,bo,CallRes.plain,aR,aV,az,noRefTV,ap,aS,aP,aB,dr,bN,aF,au,cellsOf,Nat.le_refl,isPure,bL,putCells,aH,aL,ac,Value.oneCell'];apply hK)
 (refine aE ⟨.inr rfl,aJ rfl ?_ rfl⟩;simp(disch:=omega) only[kc,bK,Tryz.results21,dc,aN,au,cH,ax,aF,aW,Nat.reduceAdd,Nat.le_refl,b7,kK,cZ])
theorem CG (n c:Nat) (f:Nat->Nat->Int) (hn1:1<=n) (hn:n<=16) (hc1:1<=c) (hc:c<=16) (hne:n≠c):
  CallC Tryz.prog 21 [em (dp n c f)] ⟨[],kK 0 false⟩:=by
 have hS:=sJ (dp n c f)
 rw[iW (nI f hn1 hn hc1 hc),ci,gJ f hn1]at hS
 rw[kK,wJ]
 refine aC Tryz.func21 rfl (by kernel_rfl) ?_;rw[Tryz.ntmps21]
 (refine aa [] fun K hK=>?_;simp(disch:=omega) only[kc,ab,em,List.replicate,bs,aT,aI,aZ,Value.oneCell',Nat.reduceAdd,bL,ac];apply hK)
 (refine aa [⟨1,_,_,_,hS⟩] fun K hK=>?_;simp(disch:=omega) only[kc,em,ar.a,ab,Nat.reduceAdd,ak,aT,aI,List.find?_cons,aQ,bo,CallRes.plain,aR,aV,az,noRefTV,ap,aS,aP,bz,aj];apply hK)
 (refine ae (aa [] fun K hK=>?_);simp(disch:=omega) only[kc,ab,Nat.reduceAdd,cX,aj,eA,aA,ai,bj,Bool.not_false,bL,aM];apply hK)
 refine af rfl (fun _=>?_) (fun h=>by simp at h<;>omega)
 (refine aa [] fun K hK=>?_;simp(disch:=omega) only[kc,ab,Nat.reduceAdd,eh,ao,aZ,eI,Value.oneCell',ex,aB,dr,bN,aF,au,cellsOf,Nat.le_refl,isPure,bL,putCells,aH,aL,ac];apply hK)
 refine bX.weak (fy 2) ?_
 refine aE ⟨.inr rfl,aJ rfl ?_ rfl⟩
 simp(disch:=omega) only[kc,bK,Tryz.results21,dc,aN,zH,au,bL,zO,ur,uG,cH,ax,aF,aW,Nat.reduceAdd,Nat.le_refl,b7]
theorem Ec (n:Nat) (f:Nat->Nat->Int) (hn1:1<=n) (hn:n<=16) (hf: ∀i j,i<n->j<n->Sz (f i j) 1024):
  CallC Tryz.prog 55 [em (dp n n f)] ⟨[],kK (detF n f) true⟩:=by
 have hS:=s9 (dp n n f)
 rw[C9 f hn1 hn]at hS
 have hD:=pT n f hn1 hn hf
 generalize detF n f=d at*
 refine aC Tryz.func55 rfl (by kernel_rfl) ?_;rw[Tryz.ntmps55]
 (refine aa [] fun K hK=>?_;simp(disch:=omega) only[kc,ab,em,List.replicate,bs,aT,aI,aZ,Value.oneCell',Nat.reduceAdd,bL,ac];apply hK)
 (refine ae (aa [⟨1,_,_,_,hS⟩] fun K hK=>?_);simp(disch:=omega) only[kc,em,ar.a,ab,Nat.reduceAdd,ak,aT,aI,List.find?_cons,aQ,bo,CallRes.plain,aR,aV,az,noRefTV,ap,aS,aP,bz,aj];apply hK)
 (refine aa [] fun K hK=>?_;simp(disch:=omega) only[kc,ab,cX,aj,eA];apply hK)
 refine af rfl (fun h=>by simp at h) (fun _=>ay ?_)
 show bX _ _ _ _
 (refine aa [⟨1,_,_,_,hD⟩] fun K hK=>?_;simp(disch:=omega) only[kc,em,tZ,ar.a,ab,Nat.reduceAdd,ak,aT,aI,List.find?_cons,aQ,bo,CallRes.plain,aR,aV,az,noRefTV,ap,aS,aP,aB,dr,bN,aF,au,cellsOf,Nat.le_refl,isPure,bL,putCells,aH,aL,ac,Value.oneCell'];apply hK)
 (refine aE ⟨.inr rfl,aJ rfl ?_ rfl⟩;simp(disch:=omega) only[kc,bK,Tryz.results55,dc,aN,au,cH,ax,aF,aW,Nat.reduceAdd,Nat.le_refl,b7,kK,cZ])
theorem Cc (n c:Nat) (f:Nat->Nat->Int) (hn1:1<=n) (hne:n≠c):
  CallC Tryz.prog 55 [em (dp n c f)] ⟨[],kK 0 false⟩:=by
 have hS:=s9 (dp n c f)
 rw[El f hn1 hne]at hS
 rw[kK,wJ]
 refine aC Tryz.func55 rfl (by kernel_rfl) ?_;rw[Tryz.ntmps55]
 (refine aa [] fun K hK=>?_;simp(disch:=omega) only[kc,ab,em,List.replicate,bs,aT,aI,aZ,Value.oneCell',Nat.reduceAdd,bL,ac];apply hK)
 (refine ae (aa [⟨1,_,_,_,hS⟩] fun K hK=>?_);simp(disch:=omega) only[kc,em,ar.a,ab,Nat.reduceAdd,ak,aT,aI,List.find?_cons,aQ,bo,CallRes.plain,aR,aV,az,noRefTV,ap,aS,aP,bz,aj];apply hK)
 (refine aa [] fun K hK=>?_;simp(disch:=omega) only[kc,ab,cX,aj,eA,Bool.not_false];apply hK)
 refine af rfl (fun _=>?_) (fun h=>by simp at h)
 (refine aa [] fun K hK=>?_;simp(disch:=omega) only[kc,ab,Nat.reduceAdd,eh,ao,aZ,eI,Value.oneCell',ex,aB,dr,bN,aF,au,cellsOf,Nat.le_refl,isPure,bL,putCells,aH,aL,ac];apply hK)
 refine bX.weak (fy 2) ?_
 refine aE ⟨.inr rfl,aJ rfl ?_ rfl⟩
 simp(disch:=omega) only[kc,bK,Tryz.results55,dc,aN,zH,au,bL,zO,ur,uG,cH,ax,aF,aW,Nat.reduceAdd,Nat.le_refl,b7]
theorem zq (a:Int):decide (uV a 1=0)=decide (a=1):=by
 unfold uV
 split
 ·have:a≠1:=by omega
  simp[this]
 ·split<;>simp_all
theorem CX (n:Nat) (f:Nat->Nat->Int) (hn1:1<=n) (hn:n<=16) (hf: ∀i j,i<n->j<n->Sz (f i j) 1024):
  CallC Tryz.prog 24 [em (dp n n f)] ⟨[],.raw (.bool (decide ((dk f n).natAbs=1)))⟩:=by
 have hD:=Ec n f hn1 hn hf
 have hsz:=xo hn hf
 have hab:=oX n f
 rw[<- hab]
 generalize detF n f=d at*
 have hA:=EJ d (hsz.mono (by omega))
 have hS:=ns 1 (by omega) (by omega)
 have hC:=EW d.natAbs 1 ((hsz.le (x:=(d.natAbs:Int)) (by simp)).mono (by omega)) (nR (by omega))
 have hc1:=zq d.natAbs
 have hc2:decide (((d.natAbs:Nat):Int)=1)=decide (d.natAbs=1):=by
  by_cases h:d.natAbs=1<;>simp[h]<;>omega
 rw[hc2]at hc1
 refine aC Tryz.func24 rfl (by kernel_rfl) ?_;rw[Tryz.ntmps24]
 (refine aa [] fun K hK=>?_;simp(disch:=omega) only[kc,ab,em,List.replicate,ac,Value.oneCell'];apply hK)
 (refine aa [⟨1,_,_,_,hD⟩] fun K hK=>?_;simp(disch:=omega) only[kc,em,kK,cZ,ar.a,ab,Nat.reduceAdd,ak,aT,aI,List.find?_cons,aQ,bo,CallRes.plain,aR,aV,az,noRefTV,ap,aS,aP,bz,aj,bs,aZ,Value.oneCell',bL,aB,dr,bN,aF,au,cellsOf,Nat.le_refl,isPure,putCells,aH,aL];apply hK)
 (refine aa [⟨3,_,_,_,hA⟩,⟨4,_,_,_,hS⟩,⟨5,_,_,_,hC⟩] fun K hK=>?_;simp(disch:=omega) only[kc,tZ,bj,ar.a,ab,Nat.reduceAdd,aA,ao,au,bL,ax,aF,aW,Nat.le_refl,cH,ak,aT,aI,List.find?_cons,aQ,bo,CallRes.plain,aR,aV,az,isPure,noRefTV,ap,aS,aP,Nat.reduceBEq,ac,Value.oneCell',aj,ai,hc1,aM];apply hK)
 (refine aE ⟨.inr rfl,aJ rfl ?_ rfl⟩;simp(disch:=omega) only[bK,Tryz.results24,aN,List.getElem?_cons_succ,List.getElem?_cons_zero])
theorem zy (n c:Nat) (f:Nat->Nat->Int) (hn1:1<=n) (hne:n≠c):
  CallC Tryz.prog 24 [em (dp n c f)] ⟨[],.raw (.bool false)⟩:=by
 have hD:=Cc n c f hn1 hne
 refine aC Tryz.func24 rfl (by kernel_rfl) ?_;rw[Tryz.ntmps24]
 (refine aa [] fun K hK=>?_;simp(disch:=omega) only[kc,ab,em,List.replicate,ac,Value.oneCell'];apply hK)
 (refine aa [⟨1,_,_,_,hD⟩] fun K hK=>?_;simp(disch:=omega) only[kc,em,kK,cZ,bj,ar.a,ab,Nat.reduceAdd,ak,aT,aI,List.find?_cons,aQ,bo,CallRes.plain,aR,aV,az,noRefTV,ap,aS,aP,bz,aj,bs,aZ,Value.oneCell',bL,aB,dr,bN,aF,au,cellsOf,Nat.le_refl,isPure,putCells,aH,aL];apply hK)
 (refine aa [] fun K hK=>?_;simp(disch:=omega) only[kc,ab,Nat.reduceAdd,aA,ao,au,cH,ax,aF,aW,Nat.le_refl,ak,aT,aI,List.find?_nil,aQ,ac,Value.oneCell',aj,Option.map_none,aM];apply hK)
 (refine aE ⟨.inr rfl,aJ rfl ?_ rfl⟩;simp(disch:=omega) only[bK,Tryz.results24,aN,List.getElem?_cons_succ,List.getElem?_cons_zero])
end Go.Proofs.YtpgghglbpcabkaaGreat
