/-
  Part 18 of a proof (walks and plain facts).
-/
import Derived.Test.YtpgghglbpcabkaaGreatQ16
set_option linter.all false
set_option maxRecDepth 100000
set_option maxHeartbeats 64000000
namespace Go.Proofs.YtpgghglbpcabkaaGreat
open Go.RowKit
abbrev jE (k:Nat) (b:Bool):TV:= .tup [(false,[.sl 0 0 0 k]),(false,[.p (.raw (.bool b))])]
open Classical in
noncomputable def r8 (M l:List (List Int)):CallRes:=if JQ M l then⟨eK 0 l.length l.length (vG M l),jE l.length true⟩else⟨eK 0 0 0 (vG M l),jE 0 false⟩
theorem oL {M l:List (List Int)} (h: ¬JQ M l):r8 M l=⟨eK 0 0 0 (vG M l),jE 0 false⟩:=if_neg h
theorem pH {M l:List (List Int)} (h:JQ M l):r8 M l=⟨eK 0 l.length l.length (vG M l),jE l.length true⟩:=if_pos h
theorem iR {fn:Func} {c:Nat} {F:Nat->Nat->Int} {b:Bool} {s:AS} (hd:s.H 500=[]) (hk:s.tmps[4]?=some (.raw (.slice none 0 0)))
  (hres:bE Tryz.prog ⟨s.tmps.set 4 (.one (.sl 500 0 0 0)),aJ s.H 500 [⟨35,1,[]⟩]⟩ fn.results.toList=some (.tup [(false,[.sl 500 0 0 0]),(false,[.p (.raw (.bool b))])])):
  ∃s',dG s s'/\ql Tryz.prog fn ⟨eK 0 0 c F,jE 0 b⟩ s':=
 ⟨_,fG (k:=4) (d:=500) 35 1 (by omega) hd hk,_,500,hres,by simp[mg,fE],by simp only[cz];rfl,rfl⟩
theorem wq {fn:Func} {d k c:Nat} {F:Nat->Nat->Int} {b:Bool} {s:AS} (hd:s.H d=eK d k c F)
  (hres:bE Tryz.prog s fn.results.toList=some (.tup [(false,[.sl d 0 0 k]),(false,[.p (.raw (.bool b))])])):
  ∃s',dG s s'/\ql Tryz.prog fn ⟨eK 0 k c F,jE k b⟩ s':=
 ⟨s,dG.refl s,_,d,hres,by simp[mg,fE],by rw[hd,dY],rfl⟩
theorem Hi (M l:List (List Int)) (hl:l.length<=16):CallC Tryz.prog 28 [ck M,ck l] (r8 M l):=by
 have hno:=oL (M:=M) (l:=l)
 have hyes:=pH (M:=M) (l:=l)
 generalize r8 M l=r at*
 have cR:=wb M
 cases hred:ch M with
 |false=>
  rw[hred]at cR
  rw[hno (fun h=>by rw[h.1]at hred;cases hred)]
  refine ax Tryz.func28 rfl (by kernel_rfl) ?_;rw[Tryz.ntmps28]
  (refine aa [] fun K hK=>?_;simp(disch:=omega) only[kc,ab,ck,Nat.reduceAdd,List.replicate,ac,Value.oneCell'];apply hK)
  (refine ae (aa [⟨1,_,_,_,cR⟩] fun K hK=>?_);simp(disch:=omega) only[kc,ck,ar.a,ab,Nat.reduceAdd,ai,aN,aC,List.find?_cons,aD,aX,CallRes.plain,aF,aH,ap,noRefTV,am,aG,aE,bW,ak,dc,Bool.not_false];apply hK)
  refine af rfl (fun _=>?_) (fun h=>by simp at h)
  (refine aa [] fun K hK=>?_;simp(disch:=omega) only[kc,ab,ac,Value.oneCell'];apply hK)
  refine ay ⟨.inr rfl,iR rfl rfl ?_⟩
  simp(disch:=omega) only[kc,bE,Tryz.results28,cY,aP,bX]
 |true=>
  rw[hred]at cR
  obtain⟨n,hn⟩: ∃n,n=l.length:=⟨_,rfl⟩
  rw[<- hn]at hyes hl
  have hln:=hn.symm
  refine ax Tryz.func28 rfl (by kernel_rfl) ?_;rw[Tryz.ntmps28]
  (refine aa [] fun K hK=>?_;simp(disch:=omega) only[kc,ab,ck,Nat.reduceAdd,List.replicate,ac,Value.oneCell'];apply hK)
  (refine ae (aa [⟨1,_,_,_,cR⟩] fun K hK=>?_);simp(disch:=omega) only[kc,ck,ar.a,ab,Nat.reduceAdd,ai,aN,aC,List.find?_cons,aD,aX,CallRes.plain,aF,aH,ap,noRefTV,am,aG,aE,bW,ak,dc];apply hK)
  refine af rfl (fun h=>by simp at h) (fun _=>aq ?_)
  show bT _ _ _ _
  (refine ae (aa [] fun K hK=>?_);simp(disch:=omega) only[kc,ab,Nat.reduceAdd,aw,au,aL,aR,hln,ac,Value.oneCell'];apply hK)
  refine bD (G:=Ir n (fun a=>FitB M.length (l.getD a [])=true)) (fun g=>⟨[ck M,ck l,jk,jk,jk,jk,jk,jk,jk,jk,jk,jk,jk,jk,jk,jk,jk,jk,jk,ck l,.raw (.int .i64 (n:Int)),.raw (.int .i64 (g.i:Int)),jk,jk,jk,jk,jk,jk,jk,jk,jk,jk,jk,jk,jk,jk,jk,jk,jk,jk,jk,jk,jk,jk,jk,jk,jk,jk,jk,jk,jk,jk,jk,jk,jk,jk,jk,jk,jk,jk,jk,jk,jk,jk,jk,jk,jk,jk,jk,jk,jk,jk,jk,jk,jk,jk,jk,jk,jk,jk,jk,jk,jk,jk,jk,jk,jk,jk,jk],Hm []⟩) (fun g=>n-g.i) ⟨0,by omega,fun a h=>by omega⟩ ?_ ?_
  ·refine aj trivial ?_
   simp[b9,bo,bj]
  rintro⟨i,hi,hg⟩
  simp only
  by_cases hm:i<n
  ·have hli:=vL (l:=l) (i:=i) (by omega)
   have cF:=Hh M.length (l.getD i [])
   cases hf:FitB M.length (l.getD i [])with
   |true=>
    rw[hf]at cF
    have hg': ∀a,a<i+1->FitB M.length (l.getD a [])=true:=fun a ha=>by
     by_cases h:a=i
     ·subst h;exact hf
     ·exact hg a (by omega)
    generalize l.getD i []=xi at*
    (refine aa [] fun K hK=>?_;simp(disch:=omega) only[kc,ab,ck,Hm,ak,ah,bA];apply hK)
    refine ae (af rfl (fun _=>aq ?_) (fun h=>by simp at h<;>omega))
    refine ae (aI ?_)
    (refine aa [] fun K hK=>?_;simp(disch:=omega) only[kc,ab,Nat.reduceAdd,ag,au,ao,aL,bG,hli,fR,b7,aA,ce];apply hK)
    (refine aa [⟨3,_,_,_,cF⟩] fun K hK=>?_;simp(disch:=omega) only[kc,qE,ar.a,ab,Nat.reduceAdd,aw,au,aL,aR,ai,aN,aC,List.find?_cons,aD,aX,CallRes.plain,aF,aH,ap,noRefTV,am,aG,aE,bW,ak,dc];apply hK)
    refine af rfl (fun h=>by simp at h) (fun _=>aq ?_)
    show bT _ _ _ _
    ((refine aU [] [] (by simp) fun K hK=>?_);simp(disch:=omega) only[kc,ab,ak,ac,Value.oneCell',ah,bC];apply hK)
    refine⟨⟨i+1,by omega,hg'⟩,by simp only;omega,aj trivial ?_⟩
    simp[b9,bo,bj]
   |false=>
    rw[hf]at cF
    have hr:=hno (fun h=>by rw[(h.2 i (by omega) i (by omega)).x]at hf;cases hf)
    generalize l.getD i []=xi at*
    (refine aa [] fun K hK=>?_;simp(disch:=omega) only[kc,ab,ck,Hm,ak,ah,bA];apply hK)
    refine ae (af rfl (fun _=>aq ?_) (fun h=>by simp at h<;>omega))
    refine ae (aI ?_)
    (refine aa [] fun K hK=>?_;simp(disch:=omega) only[kc,ab,Nat.reduceAdd,ag,au,ao,aL,bG,hli,fR,b7,aA,ce];apply hK)
    (refine aa [⟨3,_,_,_,cF⟩] fun K hK=>?_;simp(disch:=omega) only[kc,qE,ar.a,ab,Nat.reduceAdd,aw,au,aL,aR,ai,aN,aC,List.find?_cons,aD,aX,CallRes.plain,aF,aH,ap,noRefTV,am,aG,aE,bW,ak,dc,Bool.not_false];apply hK)
    refine af rfl (fun _=>?_) (fun h=>by simp at h)
    (refine aa [] fun K hK=>?_;simp(disch:=omega) only[kc,ab,ac,Value.oneCell'];apply hK)
    rw[hr]
    refine ay ⟨.inr rfl,iR rfl rfl ?_⟩
    simp(disch:=omega) only[kc,bE,Tryz.results28,cY,aP,bX]
  have hin:i=n:=by omega
  subst hin
  (refine aa [] fun K hK=>?_;simp(disch:=omega) only[kc,ab,ck,Hm,ak,ah,bf];apply hK)
  refine ae (af rfl (fun h=>by simp at h<;>omega) (fun _=>bv ?_))
  show bT _ _ _ _
  have hfit: ∀a,a<i->FitB M.length (l.getD a [])=true:=hg
  clear hg
  obtain⟨n,hni⟩: ∃n,n=i:=⟨_,rfl⟩
  subst hni
  (refine aa [] fun K hK=>?_;simp(disch:=omega) only[kc,ab,Nat.reduceAdd,aw,au,aL,aR,hln,bZ,aN,aC,gX,b7,jT,Int.natCast_nonneg,Value.oneCell',and_true,bH];apply hK)
  (refine ae (aa [] fun K hK=>?_);simp(disch:=omega) only[kc,ab,Nat.reduceAdd,aw,au,aL,aR,hln,ac,Value.oneCell'];apply hK)
  refine bD (G:=mz n) (fun g=>⟨[ck M,ck l,jk,jk,jk,jk,jk,jk,.one (.sl 33 0 0 n),jk,jk,jk,jk,jk,jk,jk,jk,jk,jk,jk,jk,jk,jk,jk,jk,jk,jk,jk,jk,jk,jk,jk,jk,jk,jk,.raw (.int .i64 (n:Int)),.raw (.int .i64 (g.i:Int)),jk,jk,jk,jk,jk,jk,jk,jk,jk,jk,jk,jk,jk,jk,jk,jk,jk,jk,jk,jk,jk,jk,jk,jk,jk,jk,jk,jk,jk,jk,jk,jk,jk,jk,jk,jk,jk,jk,jk,jk,jk,jk,jk,jk,jk,jk,jk,jk,jk,jk,jk,jk],Hm [(33,kI 33 n n g.i (fun _ _=>0))]⟩) (fun g=>n-g.i) ⟨0,by omega⟩ ?_ ?_
  ·refine aj ⟨?_,trivial⟩ ?_
   ·show[_]=_
    simp[kI,gY,cd]
   ·simp[b9,bo,bj]
  rintro⟨i,hi⟩
  simp only
  by_cases hm:i<n
  ·have k1:=nP (i:=i) (n:=n) 33 n hm
   have k2:=iv (i:=i) (n:=n) 33 n hi
   have k3:=bQ i n (fun _ _=>(0:Int))
   have k4:=kW (i:=i) (n:=n) (c:=n) 33 (fun _ _=>(0:Int)) hm (fun j hj=>rfl)
   (refine aa [] fun K hK=>?_;simp(disch:=omega) only[kc,ab,ck,Hm,ak,ah,bA];apply hK)
   refine ae (af rfl (fun _=>aq ?_) (fun h=>by simp at h<;>omega))
   refine ae (aI ?_)
   (refine aa [] fun K hK=>?_;simp(disch:=omega) only[kc,ab];apply hK)
   ((refine aU [] [] (by simp) fun K hK=>?_);simp(disch:=omega) only[kc,ab,Nat.reduceAdd,aw,au,aL,aR,hln,bZ,aN,aC,bM,gK,dL,j8,Int.natCast_nonneg,Value.oneCell',and_true,bH,Nat.reduceEqDiff,ag,ao,aJ,b7,az,df,bJ,k1,putCells,cP,List.length_replicate,List.all_replicate,isPure,List.length_map,k3,k4,aS,aT,Nat.reduceBEq];apply hK)
   show bT _ _ _ _
   ((refine aU [] [] (by simp) fun K hK=>?_);simp(disch:=omega) only[kc,ab,ak,ac,Value.oneCell',ah,bC];apply hK)
   refine⟨⟨i+1,by omega⟩,by simp only;omega,aj ⟨?_,trivial⟩ ?_⟩
   ·first|exact k4|rfl
   ·simp[b9,bo,bj]
  have hin:i=n:=by omega
  subst hin
  (refine aa [] fun K hK=>?_;simp(disch:=omega) only[kc,ab,ck,Hm,ak,ah,bf];apply hK)
  refine ae (af rfl (fun h=>by simp at h<;>omega) (fun _=>bv ?_))
  show bT _ _ _ _
  rw[nM]
  obtain⟨n,hni⟩: ∃n,n=i:=⟨_,rfl⟩
  subst hni
  (refine ae (aa [] fun K hK=>?_);simp(disch:=omega) only[kc,ab,Nat.reduceAdd,aw,au,aL,aR,hln,ac,Value.oneCell'];apply hK)
  refine bD (G:=Ir n (fun a=> ∀b,b<=a->PG M l a b)) (fun g=>⟨[ck M,ck l,jk,jk,jk,jk,jk,jk,.one (.sl 33 0 0 n),jk,jk,jk,jk,jk,jk,jk,jk,jk,jk,jk,jk,jk,jk,jk,jk,jk,jk,jk,jk,jk,jk,jk,jk,jk,jk,jk,jk,jk,jk,jk,jk,jk,jk,jk,jk,jk,ck l,.raw (.int .i64 (n:Int)),.raw (.int .i64 (g.i:Int)),jk,jk,jk,jk,jk,jk,jk,jk,jk,jk,jk,jk,jk,jk,jk,jk,jk,jk,jk,jk,jk,jk,jk,jk,jk,jk,jk,jk,jk,jk,jk,jk,jk,jk,jk,jk,jk,jk,jk,jk],Hm [(33,eK 33 n n (zt (vG M l) g.i 0))]⟩) (fun g=>n-g.i) ⟨0,by omega,fun a h=>by omega⟩ ?_ ?_
  ·refine aj ⟨?_,trivial⟩ ?_
   ·show _::_=_::_
    rw[da fun a b _ _=>(Eo (vG M l) a b).symm]
   ·simp[b9,bo,bj]
  rintro⟨i,hi,hg⟩
  simp only
  by_cases hm:i<n
  ·have hli:=vL (l:=l) (i:=i) (by omega)
   have cA:=Fd M (l.getD i []) hred (hfit i hm)
   (refine aa [] fun K hK=>?_;simp(disch:=omega) only[kc,ab,ck,Hm,ak,ah,bA];apply hK)
   refine ae (af rfl (fun _=>aq ?_) (fun h=>by simp at h<;>omega))
   refine ae (aI ?_)
   (refine aa [] fun K hK=>?_;simp(disch:=omega) only[kc,ab,Nat.reduceAdd,ag,au,ao,aL,bG,hli,fR,b7,aA,ce];apply hK)
   (refine aa [⟨2,_,_,_,cA⟩] fun K hK=>?_;simp(disch:=omega) only[kc,ck,qE,ar.a,ab,Nat.reduceAdd,ai,aN,aC,List.find?_cons,aD,aX,CallRes.plain,aF,aH,ap,noRefTV,am,aG,aE];apply hK)
   (refine aa [] fun K hK=>?_;simp(disch:=omega) only[kc,ab,Nat.reduceAdd,ak,ac,Value.oneCell',ah,bC];apply hK)
   refine bD (G:=Ir (i+1) (fun b=>PG M l i b)) (fun g=>⟨[ck M,ck l,jk,jk,jk,jk,jk,jk,.one (.sl 33 0 0 n),jk,.raw (.int .i64 (i:Int)),jk,qE (dO M (l.getD i [])),jk,jk,jk,jk,jk,jk,jk,jk,jk,jk,jk,jk,jk,jk,jk,jk,jk,jk,jk,jk,jk,jk,jk,jk,jk,jk,jk,jk,jk,jk,jk,jk,jk,ck l,.raw (.int .i64 (n:Int)),.raw (.int .i64 (i:Int)),jk,jk,jk,jk,jk,jk,jk,jk,.raw (.int .i64 ((i+1:Nat):Int)),.raw (.int .i64 (g.i:Int)),jk,jk,jk,jk,jk,jk,jk,jk,jk,jk,jk,jk,jk,jk,jk,jk,jk,jk,jk,jk,jk,jk,jk,jk,jk,jk,jk,jk,jk,jk],Hm [(33,eK 33 n n (zt (vG M l) i g.i))]⟩) (fun g=>i+1-g.i) ⟨0,by omega,fun a h=>by omega⟩ ?_ ?_
   ·refine aj ⟨rfl,trivial⟩ ?_
    simp[b9,bo,bj]
   rintro⟨j,hj,hh⟩
   simp only
   by_cases hm2:j<i+1
   ·have hlj:=vL (l:=l) (i:=j) (by omega)
    have cD:=Jz M (l.getD j []) (l.getD i []) hred (hfit j (by omega)) (hfit i hm)
    have hsy:=FY (i:=i) (j:=j) hred (hfit i hm) (hfit j (by omega))
    rw[show fd (l.getD j []) (dO M (l.getD i [])) (l.getD j []).length=vG M l j i from rfl,<- hsy]at cD
    by_cases hp:PG M l i j
    ·rw[show Ky (vG M l i j)=JN (vG M l i j) true from if_pos ⟨hp.lo,hp.hi⟩]at cD
     have g1:=cX (n:=n) (i:=i) 33 n hm
     have g2:=cX (n:=n) (i:=j) 33 n (by omega)
     have g3:=dE (n:=n) n (zt (vG M l) i j) (i:=i) hm
     have g4:=bK (zt (vG M l) i j i) (show j<n by omega)
     have g5:=dE (n:=n) n (upd (zt (vG M l) i j) i j (vG M l i j)) (i:=j) (show j<n by omega)
     have g6:=bK (upd (zt (vG M l) i j) i j (vG M l i j) j) hm
     (refine aa [] fun K hK=>?_;simp(disch:=omega) only[kc,ab,ck,qE,Hm,ak,ah,bA];apply hK)
     refine ae (af rfl (fun _=>aq ?_) (fun h=>by simp at h<;>omega))
     refine ae (aI ?_)
     (refine aa [] fun K hK=>?_;simp(disch:=omega) only[kc,ab];apply hK)
     (refine aa [⟨5,_,_,_,cD⟩] fun K hK=>?_;simp(disch:=omega) only[kc,qE,JN,ar.a,ab,Nat.reduceAdd,ag,au,ao,aL,bG,hlj,fR,b7,aA,ce,ai,aN,aC,List.find?_cons,aD,aX,CallRes.plain,aF,aH,ap,noRefTV,am,aG,aE,aV,ak];apply hK)
     (refine ae (aa [] fun K hK=>?_);simp(disch:=omega) only[kc,ab,bW,ak,dc];apply hK)
     refine af rfl (fun h=>by simp at h) (fun _=>aq ?_)
     show bT _ _ _ _
     ((refine dW bY [] [] (by kernel_rfl) (by simp) fun K hK=>?_);simp(disch:=omega) only[kc,ab,Nat.reduceAdd,ag,au,ao,aL,b7,bH,g1,aA,ce,g2,bM,g3,dL,az,df,bJ,cb,fI,g4,cellsOf,Nat.le_refl,isPure,putCells,eG,aS,aT,aJ,cP,g5,g6];apply hK)
     show bT _ _ _ _
     ((refine aU [] [] (by simp) fun K hK=>?_);simp(disch:=omega) only[kc,ab,ak,ac,Value.oneCell',ah,bC];apply hK)
     refine⟨⟨j+1,by omega,fun a ha=>?_⟩,by simp only;omega,aj ⟨?_,trivial⟩ ?_⟩
     ·by_cases h:a=j
      ·subst h;exact hp
      ·exact hh a (by omega)
     ·show _::_=_::_
      rw[da fun a b _ _=>En (f:=vG M l) rfl hsy.symm a b]
     ·simp[b9,bo,bj]
    ·have hw:Ky (vG M l i j)=JN 0 false:=if_neg fun h=>hp ⟨hfit i hm,hfit j (by omega),h.1,h.2⟩
     rw[hw]at cD
     have hr:=hno (fun h=>hp (h.2 i (by omega) j (by omega)))
     (refine aa [] fun K hK=>?_;simp(disch:=omega) only[kc,ab,ck,qE,Hm,ak,ah,bA];apply hK)
     refine ae (af rfl (fun _=>aq ?_) (fun h=>by simp at h<;>omega))
     refine ae (aI ?_)
     (refine aa [] fun K hK=>?_;simp(disch:=omega) only[kc,ab];apply hK)
     (refine aa [⟨5,_,_,_,cD⟩] fun K hK=>?_;simp(disch:=omega) only[kc,qE,JN,ar.a,ab,Nat.reduceAdd,ag,au,ao,aL,bG,hlj,fR,b7,aA,ce,ai,aN,aC,List.find?_cons,aD,aX,CallRes.plain,aF,aH,ap,noRefTV,am,aG,aE,aV,ak];apply hK)
     (refine ae (aa [] fun K hK=>?_);simp(disch:=omega) only[kc,ab,bW,ak,dc,Bool.not_false];apply hK)
     refine af rfl (fun _=>?_) (fun h=>by simp at h)
     (refine aa [] fun K hK=>?_;simp(disch:=omega) only[kc,ab,ac,Value.oneCell'];apply hK)
     rw[hr]
     refine ay ⟨.inr rfl,iR rfl rfl ?_⟩
     simp(disch:=omega) only[kc,bE,Tryz.results28,cY,aP,bX]
   ·have hjc:j=i+1:=by omega
    subst hjc
    (refine aa [] fun K hK=>?_;simp(disch:=omega) only[kc,ab,ck,qE,Hm,ak,ah,bf];apply hK)
    refine ae (af rfl (fun h=>by simp at h<;>omega) (fun _=>bv ?_))
    show bT _ _ _ _
    ((refine aU [] [] (by simp) fun K hK=>?_);simp(disch:=omega) only[kc,ab,ak,ac,Value.oneCell',ah,bC];apply hK)
    refine⟨⟨i+1,by omega,fun a ha b hb=>?_⟩,by simp only;omega,aj ⟨?_,trivial⟩ ?_⟩
    ·by_cases h:a=i
     ·subst h;exact hh b (by omega)
     ·exact hg a (by omega) b hb
    ·show _::_=_::_
     rw[da fun a b _ _=>GU (vG M l) i a b]
    ·simp[b9,bo,bj]
  ·have hin:i=n:=by omega
   subst hin
   have hr:=hyes ⟨hred,fun a ha b hb=>by
    by_cases h:b<=a
    ·exact hg a (by omega) b h
    ·have h1:=hg b (by omega) a (by omega)
     have hs:=FY (i:=a) (j:=b) hred (hfit a (by omega)) (hfit b (by omega))
     exact⟨h1.y,h1.x,by rw[hs];exact h1.lo,by rw[hs];exact h1.hi⟩⟩
   (refine aa [] fun K hK=>?_;simp(disch:=omega) only[kc,ab,ck,Hm,ak,ah,bf];apply hK)
   refine ae (af rfl (fun h=>by simp at h<;>omega) (fun _=>bv ?_))
   show bT _ _ _ _
   have e:eK 33 i i (zt (vG M l) i 0)=eK 33 i i (vG M l):=by
    show _::_=_::_
    rw[da fun a b ha hb=>GT ha hb]
   rw[e]
   rw[hr]
   (refine aa [] fun K hK=>?_;simp(disch:=omega) only[kc,ab,Nat.reduceAdd,ac,Value.oneCell'];apply hK)
   refine ay ⟨.inr rfl,wq (d:=33) rfl ?_⟩
   simp(disch:=omega) only[bE,Tryz.results28,cY,aP,List.getElem?_cons_succ,List.getElem?_cons_zero,Option.bind_some,bX,Option.map_some]
theorem fg (l:List Nat) (hb:l.length<=1073741824):CallC Tryz.prog 51 [ca l] ⟨[],ca (eH l)⟩:=by
 refine ax Tryz.func51 rfl (by kernel_rfl) ?_;rw[Tryz.ntmps51]
 (refine aa [] fun K hK=>?_;simp(disch:=omega) only[kc,ab,ca,List.replicate,ac,Value.oneCell'];apply hK)
 refine ae (bD (G:={n:Nat//n<=l.length/\eH l=eH (l.take n)}) (fun n=>⟨[ca (l.take n.1),jk,jk,jk,jk,jk,jk,jk,jk,jk,jk,jk,jk,jk,jk,jk,jk,jk,jk,jk,jk],Hm []⟩) (fun n=>n.1) ⟨l.length,Nat.le_refl _,by simp⟩ ?_ ?_)
 ·refine aj trivial ?_
  simp[b9,bo,bj]
 ·rintro⟨n,hn,hT⟩
  simp only
  have hlen:(l.take n).length=n:=by simp;omega
  by_cases h0:0<n
  ·obtain⟨a,ha⟩:=getElem?_of_lt (l:=l) (k:=n-1) (by omega)
   have e1:((n:Int)-1).toNat=n-1:=by omega
   have ha2:(l.take n)[n-1]?=some a:=by rw[List.getElem?_take,if_pos (by omega),ha]
   have htk:l.take n=l.take (n-1)++[a]:=by
    have:=List.take_succ_eq_append_getElem (i:=n-1) (l:=l) (by omega)
    rw[show n-1+1=n by omega]at this
    rw[this,(List.getElem?_eq_some_iff.1 ha).2]
   (refine ae (aa [] fun K hK=>?_);simp(disch:=omega) only[kc,ab,Nat.reduceAdd,ca,Hm,aw,au,an,aR,hlen,ak,ac,Value.oneCell',ah,bA,aB,bH,bC,ag,ao,e1,bG,ha2,fU,bs,aA,bN,aQ];apply hK)
   refine af rfl (fun hz=>aq ?_) (fun hz=>bv ?_)
   ·have hz':a=0:=by simpa using hz
    refine aI ?_
    ((refine aU [] [] (by simp) fun K hK=>?_);simp(disch:=omega) only[kc,ab,Nat.reduceAdd,bA,aw,au,an,aR,hlen,ak,ac,Value.oneCell',ah,bC,jh,gC,ao,e1,bs,zI vI,and_true,Bc,bH];apply hK)
    refine⟨⟨n-1,by omega,?_⟩,by simp only;omega,aj trivial ?_⟩
    ·rw[hT,htk,hz',ms]
    ·simp[b9,bo,bj,List.take_take,Nat.min_eq_left (show n-1<=n by omega)]
   ·have hz':a≠0:=by intro e;simp[e]at hz
    have hfin:eH l=l.take n:=by rw[hT,htk,u5 hz']
    show bT _ _ _ _
    (refine aa [] fun K hK=>?_;simp(disch:=omega) only[kc,ab,bf];apply hK)
    (refine ay ⟨.inr rfl,aO rfl ?_ rfl⟩;simp(disch:=omega) only[bE,Tryz.results51,aP,List.getElem?_cons_succ,List.getElem?_cons_zero,ca,hfin])
  ·have hn0:n=0:=by omega
   subst hn0
   have hfin:eH l=l.take 0:=by rw[hT];simp[eH]
   (refine ae (aa [] fun K hK=>?_);simp(disch:=omega) only[kc,ab,Nat.reduceAdd,ca,jt,Hm,aw,au,an,ak,ac,Value.oneCell',ah,bf,aB,Option.map_none,ag,aQ];apply hK)
   refine af rfl (fun hz=>by cases hz) (fun hz=>bv ?_)
   show bT _ _ _ _
   (refine aa [] fun K hK=>?_;simp(disch:=omega) only[kc,ab];apply hK)
   (refine ay ⟨.inr rfl,aO rfl ?_ rfl⟩;simp(disch:=omega) only[bE,Tryz.results51,aP,List.getElem?_cons_succ,List.getElem?_cons_zero,ca,hfin,List.take_zero,jt])
theorem ff (neg:Bool) (n:Nat):CallC Tryz.prog 83 [.raw (.bool neg),ca (be n)] ⟨[],tZ (gE neg n)⟩:=by
 by_cases h0:n=0
 ·subst h0
  rw[dx,show tZ (gE neg 0)= .agg [.p (.raw (.bool false)),.p (.sl (ls fU []))] by
   have:gE neg 0=0:=by cases neg<;>rfl
   simp[this,tZ,dx]]
  refine ax Tryz.func83 rfl (by kernel_rfl) ?_;rw[Tryz.ntmps83]
  (refine aa [] fun K hK=>?_;simp(disch:=omega) only[kc,ab,ca,jt,Nat.reduceAdd,List.replicate,bu,aN,aC,bi,Value.oneCell',bH];apply hK)
  (refine ae (aa [] fun K hK=>?_);simp(disch:=omega) only[kc,ab,Nat.reduceAdd,aw,au,an,ak,ac,Value.oneCell',ah,bA];apply hK)
  refine af rfl (fun _=>?_) (fun h=>by simp at h)
  (refine aa [] fun K hK=>?_;simp(disch:=omega) only[kc,ab,eC,au,bi,fO,Value.oneCell',fm,az,df,bJ,aM,aJ,cellsOf,Nat.reduceAdd,Nat.le_refl,isPure,bH,putCells,aS,aT];apply hK)
  refine ay ⟨.inr rfl,?_⟩
  refine⟨_,gL 4,pc (d:=1000) rfl ?_ rfl⟩
  simp(disch:=omega) only[kc,bE,Tryz.results83,aP,zH,aJ,bH,zO,yA,yE,cP,aA,aM,aW,Nat.reduceAdd,Nat.le_refl,jt]
 ·have hl:=gc (n:=n)
  have hl':(be n).length≠0:=by omega
  rw[show tZ (gE neg n)= .agg [.p (.raw (.bool neg)),.p (.sl (ls fU (be n)))] by
   have:decide (0<n)=true:=by simp;omega
   simp[tZ,mi,wC,this]]
  refine ax Tryz.func83 rfl (by kernel_rfl) ?_;rw[Tryz.ntmps83]
  (refine aa [] fun K hK=>?_;simp(disch:=omega) only[kc,ab,ca,Nat.reduceAdd,List.replicate,bu,aN,aC,bi,Value.oneCell',bH];apply hK)
  (refine ae (aa [] fun K hK=>?_);simp(disch:=omega) only[kc,ab,Nat.reduceAdd,aw,au,an,aR,ak,ac,Value.oneCell',ah,bf];apply hK)
  refine af rfl (fun h=>by simp at h<;>omega) (fun _=>aq ?_)
  show bT _ _ _ _
  (refine aa [] fun K hK=>?_;simp(disch:=omega) only[kc,ab,Nat.reduceAdd,eC,au,bi,fO,Value.oneCell',fm,cellsOf,Nat.reduceLeDiff,Nat.le_refl,bH,az,df,bJ,aM,aJ,isPure,putCells,aS,aT];apply hK)
  (refine ay ⟨.inr rfl,aO rfl ?_ rfl⟩;simp(disch:=omega) only[kc,bE,Tryz.results83,aP,aJ,cP,aA,aM,aW,Nat.reduceAdd,Nat.le_refl])
theorem iH (u:Nat) (hu:u<18446744073709551616):CallC Tryz.prog 84 [.raw (.int .u64 u)] ⟨[],ca (be u)⟩:=by
 have hlm:Lmb [u%4294967296,u/4294967296]:=by intro a ha;simp at ha;omega
 have ht:=fg [u%4294967296,u/4294967296] (by simp)
 rw[fl hlm,u7]at ht
 have e1:IntKind.u32.wrap (u:Int)=((u%4294967296:Nat):Int):=by rw[IntKind.wrap_u32];omega
 have e2:IntKind.u32.wrap ((u:Int).fdiv (2^(min (32:Int).toNat IntKind.u64.bits)))=((u/4294967296:Nat):Int):=by
  rw[IntKind.wrap_u32]
  show(Int.fdiv (u:Int) 4294967296)%4294967296=_
  rw[Int.fdiv_eq_ediv_of_nonneg _ (by omega)]
  omega
 simp only[Int.reduceToNat]at e2
 refine ax Tryz.func84 rfl (by kernel_rfl) ?_;rw[Tryz.ntmps84]
 (refine aa [] fun K hK=>?_;simp(disch:=omega) only[kc,ab,List.replicate,ac,Value.oneCell'];apply hK)
 (refine aa [⟨6,_,_,_,ht⟩] fun K hK=>?_;simp(disch:=omega) only[kc,ca,Bb,fU,jt,ar.a,ab,Nat.reduceAdd,bF,ak,Tryz.underlying88,cJ,e1,ac,Value.oneCell',ah,Int.reduceLE,Int.reduceToNat,e2,b8,aN,aC,an,dn,bs,fW,cellsOf,isPure,Nat.reduceMul,Nat.reduceLeDiff,List.contains_nil,ka,bH,ai,List.find?_cons,aD,aX,CallRes.plain,aF,aH,ap,noRefTV,am,aG,aE];apply hK)
 (refine ay ⟨.inr rfl,aO rfl ?_ rfl⟩;simp(disch:=omega) only[bE,Tryz.results84,aP,List.getElem?_cons_succ,List.getElem?_cons_zero,ca])
theorem oO (l:List Nat) (lm:Lmb l) (bl:l.length<=2):CallC Tryz.prog 52 [ca l] ⟨[],.raw (.int .u64 (natV l:Nat))⟩:=by
 refine ax Tryz.func52 rfl (by kernel_rfl) ?_;rw[Tryz.ntmps52]
 (refine aa [] fun K hK=>?_;simp(disch:=omega) only[kc,ab,ca,List.replicate,ac,Value.oneCell'];apply hK)
 (refine aa [] fun K hK=>?_;simp(disch:=omega) only[kc,ab,ac,Value.oneCell'];apply hK)
 (refine ae (aa [] fun K hK=>?_);simp(disch:=omega) only[kc,ab,Nat.reduceAdd,aw,au,an,aR,ac,Value.oneCell'];apply hK)
 refine bD (G:=J1 l) (fun g=>⟨[jk,jk,jk,.raw (.int .u64 (g.u:Int)),jk,jk,ca l,.raw (.int .i64 (l.length:Int)),.raw (.int .i64 (g.i:Int)),jk,jk,jk,jk,jk,jk,jk,jk,jk,jk,jk,jk,jk],Hm []⟩) (fun g=>l.length-g.i) ⟨0,0,⟨by omega,by omega⟩,rfl⟩ ?_ ?_
 ·refine aj trivial ?_
  simp[b9,bo,bj]
 ·rintro⟨i,u,hi,hu⟩
  simp only
  have hlt:=fD lm i
  rw[<- hu]at hlt
  by_cases hm:i<l.length
  ·obtain⟨a,ha⟩:=getElem?_of_lt hm
   have ha':=dp lm ha
   have hu2:=co ha
   rw[<- hu]at hu2
   (refine aa [] fun K hK=>?_;simp(disch:=omega) only[kc,ab,ca,Hm,ak,ah,bA];apply hK)
   refine ae (af rfl (fun _=>aq ?_) (fun h=>by simp at h<;>omega))
   refine ae (aI ?_)
   (refine aa [] fun K hK=>?_;simp(disch:=omega) only[kc,ab,Nat.reduceAdd,ag,au,ao,an,bG,ha,fU,bs,aA,bN];apply hK)
   have hi2:i=0\/i=1:=by omega
   rcases hi2 with rfl|rfl
   ·have e1:IntKind.u64.wrap ((a:Int)*2^min (32*((0:Nat):Int)).toNat IntKind.u64.bits)=(a:Int):=by
     rw[IntKind.wrap_u64];show((a:Int)*1)%_=_;omega
    have hu0:u=0:=by simpa[natV] using hu
    have e2:=v8 u a (by omega) (by omega)
    rw[hu0,Nat.zero_or,<- hu0]at e2
    ((refine aU [] [] (by simp) fun K hK=>?_);simp(disch:=omega) only[kc,ab,Nat.reduceAdd,bF,ak,Tryz.underlying118,cn,dS,ac,Value.oneCell',ah,bC,e1,bH,e2];apply hK)
    show bT _ _ _ _
    ((refine aU [] [] (by simp) fun K hK=>?_);simp(disch:=omega) only[kc,ab,ak,ac,Value.oneCell',ah,bC];apply hK)
    refine⟨⟨1,a,⟨by omega,by omega⟩,by rw[hu2,hu0];simp⟩,by simp only;omega,aj trivial ?_⟩
    simp[b9,bo,bj]
   ·have e1:IntKind.u64.wrap ((a:Int)*2^min (32*((1:Nat):Int)).toNat IntKind.u64.bits)=((a*4294967296:Nat):Int):=by
     rw[IntKind.wrap_u64];show((a:Int)*4294967296)%_=_;omega
    simp only[Nat.pow_one]at hlt
    have e2:=v8 u (a*4294967296) (by omega) (by omega)
    rw[show a*4294967296=a*2^32 from rfl,ra _ _ _ hlt,show a*2^32=a*4294967296 from rfl]at e2
    ((refine aU [] [] (by simp) fun K hK=>?_);simp(disch:=omega) only[kc,ab,Nat.reduceAdd,bF,ak,Tryz.underlying118,cn,dS,ac,Value.oneCell',ah,bC,e1,bH,e2];apply hK)
    show bT _ _ _ _
    ((refine aU [] [] (by simp) fun K hK=>?_);simp(disch:=omega) only[kc,ab,ak,ac,Value.oneCell',ah,bC];apply hK)
    refine⟨⟨2,a*4294967296+u,⟨by omega,by omega⟩,by rw[hu2];omega⟩,by simp only;omega,aj trivial ?_⟩
    simp[b9,bo,bj]
  ·have hfin:u=natV l:=by rw[hu,List.take_of_length_le (by omega)]
   rw[<- hfin]
   (refine aa [] fun K hK=>?_;simp(disch:=omega) only[kc,ab,ca,Hm,ak,ah,bf];apply hK)
   refine ae (af rfl (fun h=>by simp at h<;>omega) (fun _=>bv ?_))
   show bT _ _ _ _
   (refine aa [] fun K hK=>?_;simp(disch:=omega) only[kc,ab];apply hK)
   (refine ay ⟨.inr rfl,aO rfl ?_ rfl⟩;simp(disch:=omega) only[bE,Tryz.results52,aP,List.getElem?_cons_succ,List.getElem?_cons_zero])
theorem xB (n:Int) (h1: -9223372036854775808<=n) (h2:n<=9223372036854775807):CallC Tryz.prog 48 [.raw (.int .i64 n)] ⟨[],tZ n⟩:=by
 have hf:=iH n.natAbs (by omega)
 by_cases hn:n<0
 ·have ht:=ff true n.natAbs
  have e1:IntKind.u64.wrap (0-IntKind.u64.wrap n)=((n.natAbs:Nat):Int):=by rw[IntKind.wrap_u64,IntKind.wrap_u64];omega
  rw[show gE true n.natAbs=n by unfold gE;simp;omega]at ht
  refine ax Tryz.func48 rfl (by kernel_rfl) ?_;rw[Tryz.ntmps48]
  (refine aa [] fun K hK=>?_;simp(disch:=omega) only[kc,ab,List.replicate,bu,aN,aC,bi,Value.oneCell',Nat.reduceAdd,bH];apply hK)
  (refine ae (aa [] fun K hK=>?_);simp(disch:=omega) only[kc,ab,ak,ac,Value.oneCell',ah,bA];apply hK)
  refine af rfl (fun _=>?_) (fun h=>by simp at h)
  (refine aa [⟨3,_,_,_,hf⟩,⟨4,_,_,_,ht⟩] fun K hK=>?_;simp(disch:=omega) only[kc,ca,tZ,bA,ar.a,ab,Nat.reduceAdd,bF,ak,Tryz.underlying2,cn,bW,dc,e1,ai,aN,aC,List.find?_cons,aD,aX,CallRes.plain,aF,aH,ap,noRefTV,am,aG,aE,Nat.reduceBEq,ac,Value.oneCell',az,df,bJ,aM,aJ,cellsOf,Nat.le_refl,isPure,bH,putCells,aS,aT];apply hK)
  (refine ay ⟨.inr rfl,aO rfl ?_ rfl⟩;simp(disch:=omega) only[kc,bE,Tryz.results48,aP,aJ,cP,aA,aM,aW,Nat.reduceAdd,Nat.le_refl,tZ,bA])
 ·have ht:=ff false n.natAbs
  have e1:IntKind.u64.wrap n=((n.natAbs:Nat):Int):=by rw[IntKind.wrap_u64];omega
  rw[show gE false n.natAbs=n by unfold gE;simp;omega]at ht
  refine ax Tryz.func48 rfl (by kernel_rfl) ?_;rw[Tryz.ntmps48]
  (refine aa [] fun K hK=>?_;simp(disch:=omega) only[kc,ab,List.replicate,bu,aN,aC,bi,Value.oneCell',Nat.reduceAdd,bH];apply hK)
  (refine ae (aa [] fun K hK=>?_);simp(disch:=omega) only[kc,ab,ak,ac,Value.oneCell',ah,bf];apply hK)
  refine af rfl (fun h=>by simp at h) (fun _=>aq ?_)
  show bT _ _ _ _
  (refine aa [⟨2,_,_,_,hf⟩,⟨3,_,_,_,ht⟩] fun K hK=>?_;simp(disch:=omega) only[kc,ca,tZ,bf,ar.a,ab,Nat.reduceAdd,bF,ak,Tryz.underlying2,cn,e1,ai,aN,aC,List.find?_cons,aD,aX,CallRes.plain,aF,aH,ap,noRefTV,am,aG,aE,Nat.reduceBEq,ac,Value.oneCell',az,df,bJ,aM,aJ,cellsOf,Nat.le_refl,isPure,bH,putCells,aS,aT];apply hK)
  (refine ay ⟨.inr rfl,aO rfl ?_ rfl⟩;simp(disch:=omega) only[kc,bE,Tryz.results48,aP,aJ,cP,aA,aM,aW,Nat.reduceAdd,Nat.le_refl,tZ,bf])
theorem GW (z:Int) (h:Bg z):CallC Tryz.prog 85 [tZ z] ⟨[],.raw (.int .i64 (sg z))⟩:=by
 have ht:=fg (be z.natAbs) h.len
 rw[gP]at ht
 have hl:=gc (n:=z.natAbs)
 rcases Int.lt_trichotomy z 0 with hz|hz|hz
 ·have e:sg z= -1:=by simp[sg,hz]
  have hl':(be z.natAbs).length≠0:=by omega
  rw[e]
  refine ax Tryz.func85 rfl (by kernel_rfl) ?_;rw[Tryz.ntmps85]
  (refine aa [] fun K hK=>?_;simp(disch:=omega) only[kc,ab,tZ,bA,List.replicate,cf,aN,aC,cellsOf,isPure,Nat.reduceAdd,bH,ac,Value.oneCell'];apply hK)
  refine ae (aI ?_)
  (refine aa [⟨2,_,_,_,ht⟩] fun K hK=>?_;simp(disch:=omega) only[kc,ca,ar.a,ab,Nat.reduceAdd,aK,au,bU,cH,aJ,aA,cj,ai,aN,aC,List.find?_cons,aD,aX,CallRes.plain,aF,aH,ap,noRefTV,am,aG,aE,aw,an,aR,ak,ac,Value.oneCell',ah,bf];apply hK)
  refine af rfl (fun h=>by simp at h) (fun _=>?_)
  (refine aa [] fun K hK=>?_;simp(disch:=omega) only[kc,ab,Nat.reduceAdd,aK,au,bP,db,Nat.add_zero,aJ,aA,cE];apply hK)
  refine af rfl (fun _=>?_) (fun h=>by simp at h)
  (refine aa [] fun K hK=>?_;simp(disch:=omega) only[kc,ab,ac,Value.oneCell'];apply hK)
  (refine ay ⟨.inr rfl,aO rfl ?_ rfl⟩;simp(disch:=omega) only[bE,Tryz.results85,aP,List.getElem?_cons_succ,List.getElem?_cons_zero])
 ·subst hz
  rw[show sg 0=0 from rfl]
  rw[Int.natAbs_zero,dx]at ht
  rw[show tZ 0= .agg [.p (.raw (.bool false)),.p (.sl (ls fU []))]from by simp[tZ,dx]]
  refine ax Tryz.func85 rfl (by kernel_rfl) ?_;rw[Tryz.ntmps85]
  (refine aa [] fun K hK=>?_;simp(disch:=omega) only[kc,ab,jt,List.replicate,cf,aN,aC,cellsOf,isPure,Nat.reduceAdd,bH,ac,Value.oneCell'];apply hK)
  refine ae (aI ?_)
  (refine aa [⟨2,_,_,_,ht⟩] fun K hK=>?_;simp(disch:=omega) only[kc,ca,jt,ar.a,ab,Nat.reduceAdd,aK,au,bU,cH,aJ,aA,cj,ai,aN,aC,List.find?_cons,aD,aX,CallRes.plain,aF,aH,ap,noRefTV,am,aG,aE,aw,an,ak,ac,Value.oneCell',ah,bA];apply hK)
  refine af rfl (fun _=>?_) (fun h=>by simp at h)
  (refine aa [] fun K hK=>?_;simp(disch:=omega) only[kc,ab,ac,Value.oneCell'];apply hK)
  (refine ay ⟨.inr rfl,aO rfl ?_ rfl⟩;simp(disch:=omega) only[bE,Tryz.results85,aP,List.getElem?_cons_succ,List.getElem?_cons_zero])
 ·have e:sg z=1:=by unfold sg;rw[if_neg (by omega),if_neg (by omega)]
  have hl':(be z.natAbs).length≠0:=by omega
  rw[e]
  refine ax Tryz.func85 rfl (by kernel_rfl) ?_;rw[Tryz.ntmps85]
  (refine aa [] fun K hK=>?_;simp(disch:=omega) only[kc,ab,tZ,bf,List.replicate,cf,aN,aC,cellsOf,isPure,Nat.reduceAdd,bH,ac,Value.oneCell'];apply hK)
  refine ae (aI ?_)
  (refine aa [⟨2,_,_,_,ht⟩] fun K hK=>?_;simp(disch:=omega) only[kc,ca,ar.a,ab,Nat.reduceAdd,aK,au,bU,cH,aJ,aA,cj,ai,aN,aC,List.find?_cons,aD,aX,CallRes.plain,aF,aH,ap,noRefTV,am,aG,aE,aw,an,aR,ak,ac,Value.oneCell',ah,bf];apply hK)
  refine af rfl (fun h=>by simp at h) (fun _=>?_)
  (refine aa [] fun K hK=>?_;simp(disch:=omega) only[kc,ab,Nat.reduceAdd,aK,au,bP,db,Nat.add_zero,aJ,aA,cE];apply hK)
  refine af rfl (fun h=>by simp at h) (fun _=>aq ?_)
  show bT _ _ _ _
  (refine aa [] fun K hK=>?_;simp(disch:=omega) only[kc,ab,ac,Value.oneCell'];apply hK)
  (refine ay ⟨.inr rfl,aO rfl ?_ rfl⟩;simp(disch:=omega) only[bE,Tryz.results85,aP,List.getElem?_cons_succ,List.getElem?_cons_zero])
theorem xA (z:Int) (h:Bg z):CallC Tryz.prog 22 [tZ z] ⟨[],il z⟩:=by
 have ht:=fg (be z.natAbs) h.len
 rw[gP]at ht
 have hl:=h.len
 by_cases h2:2<(be z.natAbs).length
 ·have hb:=si h2
  rw[show il z= .tup [(false,[.p (.raw (.int .i64 0))]),(false,[.p (.raw (.bool false))])] by unfold il;rw[if_neg (by omega)]]
  refine ax Tryz.func22 rfl (by kernel_rfl) ?_;rw[Tryz.ntmps22]
  (refine aa [] fun K hK=>?_;simp(disch:=omega) only[kc,ab,Nat.reduceAdd,tZ,List.replicate,cf,aN,aC,cellsOf,isPure,bH,ac,Value.oneCell'];apply hK)
  (refine aa [⟨2,_,_,_,ht⟩] fun K hK=>?_;simp(disch:=omega) only[kc,ca,ar.a,ab,Nat.reduceAdd,aK,au,bU,cH,aJ,aA,cj,ai,aN,aC,List.find?_cons,aD,aX,CallRes.plain,aF,aH,ap,noRefTV,am,aG,aE];apply hK)
  (refine ae (aa [] fun K hK=>?_);simp(disch:=omega) only[kc,ab,Nat.reduceAdd,aw,au,an,aR,ak,ac,Value.oneCell',ah,bA];apply hK)
  refine af rfl (fun _=>?_) (fun h=>by simp at h<;>omega)
  (refine aa [] fun K hK=>?_;simp(disch:=omega) only[kc,ab,ac,Value.oneCell'];apply hK)
  (refine ay ⟨.inr rfl,aO rfl ?_ rfl⟩;simp(disch:=omega) only[bE,Tryz.results22,cY,aP,List.getElem?_cons_succ,List.getElem?_cons_zero,Option.bind_some,bX,Option.map_some])
 ·have hb:=gU (n:=z.natAbs) (by omega)
  have hw:=oO (be z.natAbs) (bz _) (by omega)
  rw[aY]at hw
  by_cases hz:z<0
  ·by_cases hz2:z.natAbs<=9223372036854775808
   ·have e1:IntKind.i64.wrap (IntKind.u64.wrap (0-(z.natAbs:Int)))=z:=by
     rw[IntKind.wrap_u64]
     have:(0-(z.natAbs:Int))%18446744073709551616=18446744073709551616+z:=by omega
     rw[this,IntKind.wrap_i64]
     omega
    rw[show il z= .tup [(false,[.p (.raw (.int .i64 z))]),(false,[.p (.raw (.bool true))])] by unfold il;rw[if_pos (by omega)]]
    refine ax Tryz.func22 rfl (by kernel_rfl) ?_;rw[Tryz.ntmps22]
    (refine aa [] fun K hK=>?_;simp(disch:=omega) only[kc,ab,Nat.reduceAdd,tZ,bA,List.replicate,cf,aN,aC,cellsOf,isPure,bH,ac,Value.oneCell'];apply hK)
    (refine aa [⟨2,_,_,_,ht⟩] fun K hK=>?_;simp(disch:=omega) only[kc,ca,ar.a,ab,Nat.reduceAdd,aK,au,bU,cH,aJ,aA,cj,ai,aN,aC,List.find?_cons,aD,aX,CallRes.plain,aF,aH,ap,noRefTV,am,aG,aE];apply hK)
    (refine ae (aa [] fun K hK=>?_);simp(disch:=omega) only[kc,ab,Nat.reduceAdd,aw,au,an,aR,ak,ac,Value.oneCell',ah,bf];apply hK)
    refine af rfl (fun h=>by simp at h<;>omega) (fun _=>aq ?_)
    show bT _ _ _ _
    (refine aa [⟨1,_,_,_,hw⟩] fun K hK=>?_;simp(disch:=omega) only[kc,ca,ar.a,ab,Nat.reduceAdd,ai,aN,aC,List.find?_cons,aD,aX,CallRes.plain,aF,aH,ap,noRefTV,am,aG,aE];apply hK)
    refine ae (aI ?_)
    (refine aa [] fun K hK=>?_;simp(disch:=omega) only[kc,ab,Nat.reduceAdd,aK,au,bP,db,Nat.add_zero,aJ,aA,cE,aB,ak,ac,Value.oneCell',bH,ah,bA,aQ];apply hK)
    refine af rfl (fun _=>?_) (fun h=>by simp at h<;>omega)
    (refine aa [] fun K hK=>?_;simp(disch:=omega) only[kc,ab,Nat.reduceAdd,bW,ak,dc,bF,Tryz.underlying88,ro,e1,ac,Value.oneCell'];apply hK)
    (refine ay ⟨.inr rfl,aO rfl ?_ rfl⟩;simp(disch:=omega) only[bE,Tryz.results22,cY,aP,List.getElem?_cons_succ,List.getElem?_cons_zero,Option.bind_some,bX,Option.map_some])
   ·rw[show il z= .tup [(false,[.p (.raw (.int .i64 0))]),(false,[.p (.raw (.bool false))])] by unfold il;rw[if_neg (by omega)]]
    refine ax Tryz.func22 rfl (by kernel_rfl) ?_;rw[Tryz.ntmps22]
    (refine aa [] fun K hK=>?_;simp(disch:=omega) only[kc,ab,Nat.reduceAdd,tZ,bA,List.replicate,cf,aN,aC,cellsOf,isPure,bH,ac,Value.oneCell'];apply hK)
    (refine aa [⟨2,_,_,_,ht⟩] fun K hK=>?_;simp(disch:=omega) only[kc,ca,ar.a,ab,Nat.reduceAdd,aK,au,bU,cH,aJ,aA,cj,ai,aN,aC,List.find?_cons,aD,aX,CallRes.plain,aF,aH,ap,noRefTV,am,aG,aE];apply hK)
    (refine ae (aa [] fun K hK=>?_);simp(disch:=omega) only[kc,ab,Nat.reduceAdd,aw,au,an,aR,ak,ac,Value.oneCell',ah,bf];apply hK)
    refine af rfl (fun h=>by simp at h<;>omega) (fun _=>aq ?_)
    show bT _ _ _ _
    (refine aa [⟨1,_,_,_,hw⟩] fun K hK=>?_;simp(disch:=omega) only[kc,ca,ar.a,ab,Nat.reduceAdd,ai,aN,aC,List.find?_cons,aD,aX,CallRes.plain,aF,aH,ap,noRefTV,am,aG,aE];apply hK)
    refine ae (aI ?_)
    (refine aa [] fun K hK=>?_;simp(disch:=omega) only[kc,ab,Nat.reduceAdd,aK,au,bP,db,Nat.add_zero,aJ,aA,cE,aB,ak,ac,Value.oneCell',bH,ah,bf,aQ];apply hK)
    refine af rfl (fun h=>by simp at h<;>omega) (fun _=>?_)
    (refine aa [] fun K hK=>?_;simp(disch:=omega) only[kc,ab,Nat.reduceAdd,aK,au,bP,db,Nat.add_zero,aJ,aA,cE,bW,ak,dc,aB,ac,Value.oneCell',Option.map_none,aQ];apply hK)
    refine af rfl (fun h=>by simp at h<;>omega) (fun _=>aq ?_)
    show bT _ _ _ _
    (refine aa [] fun K hK=>?_;simp(disch:=omega) only[kc,ab,ac,Value.oneCell'];apply hK)
    (refine ay ⟨.inr rfl,aO rfl ?_ rfl⟩;simp(disch:=omega) only[bE,Tryz.results22,cY,aP,List.getElem?_cons_succ,List.getElem?_cons_zero,Option.bind_some,bX,Option.map_some])
  ·by_cases hz2:z.natAbs<9223372036854775808
   ·have e1:IntKind.i64.wrap (z.natAbs:Int)=z:=by rw[IntKind.wrap_i64];omega
    rw[show il z= .tup [(false,[.p (.raw (.int .i64 z))]),(false,[.p (.raw (.bool true))])] by unfold il;rw[if_pos (by omega)]]
    refine ax Tryz.func22 rfl (by kernel_rfl) ?_;rw[Tryz.ntmps22]
    (refine aa [] fun K hK=>?_;simp(disch:=omega) only[kc,ab,Nat.reduceAdd,tZ,bf,List.replicate,cf,aN,aC,cellsOf,isPure,bH,ac,Value.oneCell'];apply hK)
    (refine aa [⟨2,_,_,_,ht⟩] fun K hK=>?_;simp(disch:=omega) only[kc,ca,ar.a,ab,Nat.reduceAdd,aK,au,bU,cH,aJ,aA,cj,ai,aN,aC,List.find?_cons,aD,aX,CallRes.plain,aF,aH,ap,noRefTV,am,aG,aE];apply hK)
    (refine ae (aa [] fun K hK=>?_);simp(disch:=omega) only[kc,ab,Nat.reduceAdd,aw,au,an,aR,ak,ac,Value.oneCell',ah,bf];apply hK)
    refine af rfl (fun h=>by simp at h<;>omega) (fun _=>aq ?_)
    show bT _ _ _ _
    (refine aa [⟨1,_,_,_,hw⟩] fun K hK=>?_;simp(disch:=omega) only[kc,ca,ar.a,ab,Nat.reduceAdd,ai,aN,aC,List.find?_cons,aD,aX,CallRes.plain,aF,aH,ap,noRefTV,am,aG,aE];apply hK)
    refine ae (aI ?_)
    (refine aa [] fun K hK=>?_;simp(disch:=omega) only[kc,ab,Nat.reduceAdd,aK,au,bP,db,Nat.add_zero,aJ,aA,cE,aB,ak,ac,Value.oneCell',Option.map_none,aQ];apply hK)
    refine af rfl (fun h=>by simp at h<;>omega) (fun _=>?_)
    (refine aa [] fun K hK=>?_;simp(disch:=omega) only[kc,ab,Nat.reduceAdd,aK,au,bP,db,Nat.add_zero,aJ,aA,cE,bW,ak,dc,Bool.not_false,aB,ac,Value.oneCell',bH,ah,bA,aQ];apply hK)
    refine af rfl (fun _=>?_) (fun h=>by simp at h<;>omega)
    (refine aa [] fun K hK=>?_;simp(disch:=omega) only[kc,ab,Nat.reduceAdd,bF,ak,Tryz.underlying88,ro,e1,ac,Value.oneCell'];apply hK)
    (refine ay ⟨.inr rfl,aO rfl ?_ rfl⟩;simp(disch:=omega) only[bE,Tryz.results22,cY,aP,List.getElem?_cons_succ,List.getElem?_cons_zero,Option.bind_some,bX,Option.map_some])
   ·rw[show il z= .tup [(false,[.p (.raw (.int .i64 0))]),(false,[.p (.raw (.bool false))])] by unfold il;rw[if_neg (by omega)]]
    refine ax Tryz.func22 rfl (by kernel_rfl) ?_;rw[Tryz.ntmps22]
    (refine aa [] fun K hK=>?_;simp(disch:=omega) only[kc,ab,Nat.reduceAdd,tZ,bf,List.replicate,cf,aN,aC,cellsOf,isPure,bH,ac,Value.oneCell'];apply hK)
    (refine aa [⟨2,_,_,_,ht⟩] fun K hK=>?_;simp(disch:=omega) only[kc,ca,ar.a,ab,Nat.reduceAdd,aK,au,bU,cH,aJ,aA,cj,ai,aN,aC,List.find?_cons,aD,aX,CallRes.plain,aF,aH,ap,noRefTV,am,aG,aE];apply hK)
    (refine ae (aa [] fun K hK=>?_);simp(disch:=omega) only[kc,ab,Nat.reduceAdd,aw,au,an,aR,ak,ac,Value.oneCell',ah,bf];apply hK)
    refine af rfl (fun h=>by simp at h<;>omega) (fun _=>aq ?_)
    show bT _ _ _ _
    (refine aa [⟨1,_,_,_,hw⟩] fun K hK=>?_;simp(disch:=omega) only[kc,ca,ar.a,ab,Nat.reduceAdd,ai,aN,aC,List.find?_cons,aD,aX,CallRes.plain,aF,aH,ap,noRefTV,am,aG,aE];apply hK)
    refine ae (aI ?_)
    (refine aa [] fun K hK=>?_;simp(disch:=omega) only[kc,ab,Nat.reduceAdd,aK,au,bP,db,Nat.add_zero,aJ,aA,cE,aB,ak,ac,Value.oneCell',Option.map_none,aQ];apply hK)
    refine af rfl (fun h=>by simp at h<;>omega) (fun _=>?_)
    (refine aa [] fun K hK=>?_;simp(disch:=omega) only[kc,ab,Nat.reduceAdd,aK,au,bP,db,Nat.add_zero,aJ,aA,cE,bW,ak,dc,Bool.not_false,aB,ac,Value.oneCell',bH,ah,bf,aQ];apply hK)
    refine af rfl (fun h=>by simp at h<;>omega) (fun _=>aq ?_)
    show bT _ _ _ _
    (refine aa [] fun K hK=>?_;simp(disch:=omega) only[kc,ab,ac,Value.oneCell'];apply hK)
    (refine ay ⟨.inr rfl,aO rfl ?_ rfl⟩;simp(disch:=omega) only[bE,Tryz.results22,cY,aP,List.getElem?_cons_succ,List.getElem?_cons_zero,Option.bind_some,bX,Option.map_some])
/-! Clone: a walk of the older kind, for it holds the slice against nil. -/
theorem rN (A:Option Addr) (c:Nat) (x:List Int) (w:World) (hx:RdI .u32 w A x) (hl:x.length*4<=140737488355328):
  Calls Tryz.prog 123 #[.slice A x.length c] w fun e w'=> ∃v,e= .returned v/\w'.ownsRow w.heap.size 118 1 v x.length (x.map (Value.int .u32))/\Ext w w':=by
 have hnil:=fun(w:World) (n c:Nat)=>Lib.run_eql_slice_nil (P:=Tryz.prog) w 51 118 A n c 0 0 Tryz.underlying51
 cases A with
 |none=>
  have hx0:x=[]:=by
   cases x with
   |nil=>rfl
   |cons a l=>obtain⟨_,_,h,_⟩:=hx (by simp);cases h
  subst hx0
  go_enter Tryz.func123,Tryz.ntmps123
  go_wp2_with fail
  go_ret
  exact⟨_,rfl,World.ownsRow_nil _ _ _ _,Ext.refl _⟩
 |some a=>
  go_enter Tryz.func123,Tryz.ntmps123
  go_wp2_with (at_builtin;refine iA _ rfl (.tmp 5) (.tmp 6) _ rfl w.heap.size 118 (.int .u32 0) 1 4 Tryz.underlying51 Tryz.inU32 rfl (by omega) _ 0 [] rfl (World.ownsRow_made w #[] 0 (Nat.le_refl _) (Nat.zero_le _) rfl) (some a) x.length c _ rfl (Rd.ext hx ((Ext.refl _).alloc _)) (by simp) oV (by simp only[maxLen];omega) (by omega) (by simp) ?_;intro v1 w1 hown1 hg1 _)
  go_ret
  exact⟨_,rfl,by simpa using hown1,uy hg1 (World.ownsRow_made w #[] 0 (Nat.le_refl _) (Nat.zero_le _) rfl:World.ownsRow _ w.heap.size 118 1 _ 0 []) ((Ext.refl w).alloc _) (Nat.le_refl _)⟩
theorem By {X:Nat->Prop} {w:World} {l:List Nat} {v:Value} (h:dy X w (.sl (ls fU l)) v): ∃A c,v= .slice A l.length c/\l.length<=c/\RdI .u32 w A (l.map fun n:Nat=>(n:Int)):=by
 generalize hx:PV.sl (ls fU l)=x at h
 cases h with
 |raw v h=>cases hx
 |ptr b off cs f hX hb hc hr=>cases hx
 |nil a c=>
  injection hx with hx
  have hl:l=[]:=by simpa[ls] using hx
  subst hl
  exact⟨a,c,rfl,Nat.zero_le _,RdI.nil _ _ _⟩
 |sl b off es cap xs f hX hb hes hcap hm hc hr=>
  injection hx with hx
  subst hx
  rw[aR]at hcap hm
  refine⟨some ⟨b,off,none⟩,cap,by rw[aR],hcap,fun hne=>⟨b,off,rfl,fun i x hx=>?_⟩⟩
  rw[List.getElem?_map,List.getElem?_map]at hx
  obtain⟨z',hz',rfl⟩:=Option.map_eq_some_iff.1 hx
  obtain⟨z,hz,rfl⟩:=Option.map_eq_some_iff.1 hz'
  have h1:(ls fU l)[i]?=some (fU z):=by rw[bG,hz];rfl
  have he:es=1:=by rw[<- hes _ (List.mem_of_getElem? h1)];rfl
  subst he
  have h2:=hc i _ 0 _ h1 rfl
  have h3:=lj (hr i _ 0 _ h1 rfl)
  rw[h3,Nat.mul_one,Nat.add_zero]at h2
  exact h2
theorem Fc {w':World} {k:Nat} {v:Value} {l:List Nat} {Y:Nat->Prop} (hY: ∀b,Y b->b<k) (hm:l.length<=9223372036854775807) (h:w'.ownsRow k 118 1 v l.length ((l.map fun n:Nat=>(n:Int)).map (Value.int .u32))):dy Y w' (.sl (ls fU l)) v:=by
 obtain⟨hl,h2⟩:=h
 rcases h2 with⟨hv,hn⟩|⟨g,cap,cur,hv,hg,hh,hnc,hm2,hs,ht⟩
 ·have:l=[]:=List.eq_nil_of_length_eq_zero (by omega)
  subst this
  rw[hv]
  exact dy.nil _ _
 ·rw[hv]
  have hcell: ∀(i:Nat) z,l[i]?=some z->cur[i]?=some (.int .u32 (z:Int)):=fun i z hz=>by
   have h3:((l.map fun n:Nat=>(n:Int)).map (Value.int .u32))[i]?=some (.int .u32 (z:Int)):=by rw[List.getElem?_map,List.getElem?_map,hz];rfl
   rw[<- ht,List.getElem?_take]at h3
   split at h3
   ·simpa using h3
   ·cases h3
  have:=dy.sl (X:=Y) (w:=w') g 0 1 cap (ls fU l) (fun i _=>(cur[i]?).getD undef) (fun h=>absurd (hY _ h) (by omega)) (Array.getElem?_eq_some_iff.1 hh).1 (fun e he=>by
   obtain⟨z,_,rfl⟩:=List.mem_map.1 he
   rfl) (by rw[aR];exact hnc) (by rw[aR];exact hm) (fun i e j x he hx=>by
   rw[bG]at he
   obtain⟨z,hz,rfl⟩:=Option.map_eq_some_iff.1 he
   cases j with
   |succ j=>simp[fU]at hx
   |zero=>
    rw[cell_of_row _ g _ cur _ _ hh,Nat.zero_add,Nat.mul_one,Nat.add_zero,hcell i z hz];rfl) (fun i e j x he hx=>by
   rw[bG]at he
   obtain⟨z,hz,rfl⟩:=Option.map_eq_some_iff.1 he
   cases j with
   |succ j=>simp[fU]at hx
   |zero=>
    simp[fU]at hx
    subst hx
    simp only[hcell i z hz,Option.getD_some]
    exact dy.raw _ rfl)
  rw[aR]at this
  exact this
theorem se (l:List Nat) (hl:l.length<=1073741824):CallC Tryz.prog 123 [ca l] ⟨[],ca l⟩:=by
 refine rI (by kernel_rfl) fun X w vs hX hvs ha=>?_
 obtain⟨v0,e0,r0⟩:=qI ha (j:=0) rfl
 obtain⟨A,c,rfl,hc,hR⟩:=By r0
 obtain rfl:vs= #[.slice A l.length c]:=by
  apply Array.ext_getElem?
  intro j
  match j with
  |0=>exact e0
  |j+1=>rw[Array.getElem?_eq_none (by simp at hvs;omega)];rfl
 have hlen:(l.map fun n:Nat=>(n:Int)).length=l.length:=List.length_map _
 have:=rN A c (l.map fun n:Nat=>(n:Int)) w hR (by rw[hlen];omega)
 rw[hlen]at this
 refine this.mono fun e w' ⟨v,h1,h2,h3⟩=>⟨v,h1,fun ρ H Y hY=>Fc hY (by omega) h2,h3⟩
theorem vP (z:Int) (h:Bg z):CallC Tryz.prog 90 [tZ z] ⟨[],tZ z⟩:=by
 have ht:=fg (be z.natAbs) h.len
 rw[gP]at ht
 have hc:=se (be z.natAbs) h.len
 have hb:=ff (decide (z<0)) z.natAbs
 rw[vV]at hb
 refine ax Tryz.func90 rfl (by kernel_rfl) ?_;rw[Tryz.ntmps90]
 (refine aa [] fun K hK=>?_;simp(disch:=omega) only[kc,ab,tZ,List.replicate,cf,aN,aC,cellsOf,isPure,Nat.reduceAdd,bH,bu,bi,Value.oneCell',aJ,Nat.reduceEqDiff];apply hK)
 (refine bS bY [⟨4,_,_,_,ht⟩,⟨5,_,_,_,hc⟩,⟨6,_,_,_,hb⟩] [] (by kernel_rfl) (by simp) fun K hK=>?_;simp(disch:=omega) only[kc,ca,tZ,ar.a,ab,Nat.reduceAdd,aK,au,bP,db,Nat.add_zero,aJ,Nat.reduceEqDiff,aA,cE,bU,cH,cj,ai,aN,aC,List.find?_cons,aD,aX,CallRes.plain,aF,aH,ap,noRefTV,am,aG,aE,Nat.reduceBEq,az,df,bJ,aM,cellsOf,Nat.le_refl,isPure,bH,putCells,aS,aT];apply hK)
 (refine ay ⟨.inr rfl,aO rfl ?_ rfl⟩;simp(disch:=omega) only[kc,bE,Tryz.results90,aP,aJ,Nat.reduceEqDiff,cP,aA,aM,aW,Nat.reduceAdd,Nat.le_refl,tZ])
theorem Jp (z:Int) (h:Bg z):CallC Tryz.prog 89 [tZ z] ⟨[],tZ (-z)⟩:=by
 have ht:=fg (be z.natAbs) h.len
 rw[gP]at ht
 have hc:=se (be z.natAbs) h.len
 have hb:=ff (!decide (z<0)) z.natAbs
 rw[zJ]at hb
 refine ax Tryz.func89 rfl (by kernel_rfl) ?_;rw[Tryz.ntmps89]
 (refine aa [] fun K hK=>?_;simp(disch:=omega) only[kc,ab,tZ,List.replicate,cf,aN,aC,cellsOf,isPure,Nat.reduceAdd,bH,bu,bi,Value.oneCell',aJ,Nat.reduceEqDiff];apply hK)
 (refine bS bY [⟨5,_,_,_,ht⟩,⟨6,_,_,_,hc⟩,⟨7,_,_,_,hb⟩] [] (by kernel_rfl) (by simp) fun K hK=>?_;simp(disch:=omega) only[kc,ca,tZ,ar.a,ab,Nat.reduceAdd,aK,au,bP,db,Nat.add_zero,aJ,Nat.reduceEqDiff,aA,cE,bW,ak,dc,bU,cH,cj,ai,aN,aC,List.find?_cons,aD,aX,CallRes.plain,aF,aH,ap,noRefTV,am,aG,aE,Nat.reduceBEq,az,df,bJ,aM,cellsOf,Nat.le_refl,isPure,bH,putCells,aS,aT];apply hK)
 (refine ay ⟨.inr rfl,aO rfl ?_ rfl⟩;simp(disch:=omega) only[kc,bE,Tryz.results89,aP,aJ,Nat.reduceEqDiff,cP,aA,aM,aW,Nat.reduceAdd,Nat.le_refl,tZ])
end Go.Proofs.YtpgghglbpcabkaaGreat
