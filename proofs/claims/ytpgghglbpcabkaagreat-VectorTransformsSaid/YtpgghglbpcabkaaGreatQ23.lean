/-
  Part 24 of a proof (walks and plain facts).
-/
import Derived.Test.YtpgghglbpcabkaaGreatQ22
set_option linter.all false
set_option maxRecDepth 100000
set_option maxHeartbeats 64000000
namespace Go.Proofs.YtpgghglbpcabkaaGreat
open Go.RowKit
open Classical in
noncomputable def ng (M t:List (List Int)):CallRes:=if t.length=M.length/\lP t then r8 M (lV t)else⟨eK 0 0 0 (fun _ _=>0),jE 0 false⟩
theorem jz {M t:List (List Int)} (h: ¬(t.length=M.length/\lP t)):ng M t=⟨eK 0 0 0 (fun _ _=>0),jE 0 false⟩:=if_neg h
theorem kE {M t:List (List Int)} (h:t.length=M.length/\lP t):ng M t=r8 M (lV t):=if_pos h
theorem r9 (M l:List (List Int)): ∃k b F,r8 M l=⟨eK 0 k k F,jE k b⟩/\k<=l.length:=by
 by_cases h:JQ M l
 ·exact⟨_,_,_,pH h,Nat.le_refl _⟩
 ·exact⟨_,_,_,oL h,Nat.zero_le _⟩
theorem uq (t:List (List Int)):(lV t).length=t.length:=bQ _ _ _
theorem og (M t:List (List Int)): ∃k b F,ng M t=⟨eK 0 k k F,jE k b⟩/\k<=8:=by
 by_cases h:t.length=M.length/\lP t
 ·obtain⟨k,b,F,h1,h2⟩:=r9 M (lV t)
  rw[uq]at h2
  have:=h.2.2.2.1
  exact⟨k,b,F,by rw[kE h,h1],by omega⟩
 ·exact⟨0,false,_,jz h,by omega⟩
theorem lh (M t:List (List Int)) (ht:MI t):CallC Tryz.prog 11 [ck M,ck t] (ng M t):=by
 by_cases hlen:t.length=M.length
 ·have cU:=JA t ht
  by_cases hu:lP t
  ·rw[pq hu]at cU
   have e:=hu.eq
   have hcols:lV t=cd t.length t.length (io (ent t)):=rfl
   have hn8:=hu.2.2.1
   have hn1:=hu.1.1
   have cG:=Hi M (lV t) (by rw[uq];omega)
   rw[kE ⟨hlen,hu⟩]
   obtain⟨k,bb,V,hk,_⟩:=r9 M (lV t)
   rw[hk]at cG⊢
   clear hk
   rw[hcols]at cG
   clear hcols hu
   have hlM:=hlen.symm
   generalize ent t=g at*
   generalize hnn:t.length=n at*
   clear ht
   subst e
   have hml:=bQ n n g
   refine ax Tryz.func11 rfl (by kernel_rfl) ?_;rw[Tryz.ntmps11]
   (refine aa [] fun K hK=>?_;simp(disch:=omega) only[kc,ab,ck,Nat.reduceAdd,List.replicate,ac,Value.oneCell'];apply hK)
   (refine ae (aa [⟨7,_,_,_,cU⟩] fun K hK=>?_);simp(disch:=omega) only[kc,ck,ar.a,ab,Nat.reduceAdd,aw,au,aL,aR,hml,hlM,ak,ah,bA,aB,ai,aN,aC,List.find?_cons,aD,aX,CallRes.plain,aF,aH,ap,noRefTV,am,aG,aE,bH,bW,dc,aQ];apply hK)
   refine af rfl (fun h=>by simp at h<;>omega) (fun _=>aq ?_)
   show bT _ _ _ _
   (refine aa [] fun K hK=>?_;simp(disch:=omega) only[kc,ab,Nat.reduceAdd,aw,au,aL,aR,hml,bZ,aN,aC,gX,b7,jT,Int.natCast_nonneg,Value.oneCell',and_true,bH];apply hK)
   (refine ae (aa [] fun K hK=>?_);simp(disch:=omega) only[kc,ab,Nat.reduceAdd,aw,au,aL,ac,Value.oneCell'];apply hK)
   refine bD (G:=mz n) (fun q=>⟨[ck M,ck (cd n n g),jk,jk,jk,jk,.one (.sl 22 0 0 n),jk,jk,jk,jk,jk,jk,jk,jk,jk,jk,jk,jk,jk,jk,jk,jk,jk,.raw (.int .i64 (n:Int)),.raw (.int .i64 (q.i:Int)),jk,jk,jk,jk,jk,jk,jk,jk,jk,jk,jk,jk,jk,jk,jk,jk,jk,jk,jk,jk,jk,jk,jk,jk,jk,jk,jk,jk],Hm [(22,kI 22 n n q.i (io g))]⟩) (fun q=>n-q.i) ⟨0,by omega⟩ ?_ ?_
   ·refine aj ⟨?_,trivial⟩ ?_
    ·show[_]=_
     simp[kI,gY,cd]
    ·simp[b9,bo,bj]
   ·rintro⟨i,hi⟩
    simp only
    by_cases hm:i<n
    ·have hmi:=bQ i n (io g)
     have hsl:(gY 22 (List.replicate i n)).length=i:=by rw[dN,List.length_replicate]
     have hrl:((cd i n (io g)).map rh).length=i:=by rw[List.length_map,hmi]
     (refine aa [] fun K hK=>?_;simp(disch:=omega) only[kc,ab,ck,Hm,ak,ah,bA];apply hK)
     refine ae (af rfl (fun _=>aq ?_) (fun h=>by simp at h<;>omega))
     refine ae (aI ?_)
     (refine aa [] fun K hK=>?_;simp(disch:=omega) only[kc,ab];apply hK)
     (refine aa [] fun K hK=>?_;simp(disch:=omega) only[kc,ab,Nat.reduceAdd,aw,au,aL,aR,hml,ac,Value.oneCell'];apply hK)
     refine bD (G:=mz n) (fun q=>⟨[ck M,ck (cd n n g),jk,jk,jk,jk,.one (.sl 22 0 0 n),.raw (.int .i64 (i:Int)),jk,jk,jk,jk,jk,jk,jk,jk,jk,jk,jk,jk,jk,jk,jk,jk,.raw (.int .i64 (n:Int)),.raw (.int .i64 (i:Int)),jk,jk,ck (cd n n g),.raw (.int .i64 (n:Int)),.raw (.int .i64 (q.i:Int)),jk,jk,jk,jk,jk,jk,jk,jk,jk,jk,jk,jk,jk,jk,jk,jk,jk,jk,jk,jk,jk,jk,jk],Hm [(22,Kw 22 n n (io g) i q.i)]⟩) (fun q=>n-q.i) ⟨0,by omega⟩ ?_ ?_
     ·refine aj ⟨rfl,trivial⟩ ?_
      simp[b9,bo,bj]
     ·rintro⟨j,hj⟩
      simp only
      by_cases hm2:j<n
      ·have hr:=cS n g hm2
       have hjr:=bK (g j) hm
       cases j with
       |zero=>
        rw[Kw,GV (io g) hm]
        (refine aa [] fun K hK=>?_;simp(disch:=omega) only[kc,ab,ck,Hm,ak,ah,bA];apply hK)
        refine ae (af rfl (fun _=>aq ?_) (fun h=>by simp at h<;>omega))
        refine ae (aI ?_)
        (refine aa [] fun K hK=>?_;simp(disch:=omega) only[kc,ab,Nat.reduceAdd,ag,au,ao,aL,bG,hr,fR,b7,aA,ce];apply hK)
        ((refine dW bY [] [] (by kernel_rfl) (by simp) fun K hK=>?_);simp(disch:=omega) only[kc,ab,Nat.reduceAdd,ag,au,ao,aL,b7,bH,mM hsl,aA,ce,bM,bG,hjr,fI,dL,fF,b8,aN,aC,gK,fW,cellsOf,isPure,Nat.reduceMul,Nat.reduceLeDiff,List.contains_nil,ka,cW,iX,bJ,newsOf,j8,ef,eZ,and_true,Nat.reduceEqDiff,aJ,az,df,putCells,mN hsl,cP,List.length_map,hmi,aS,aT,Nat.reduceBEq];apply hK)
        show bT _ _ _ _
        ((refine aU [] [] (by simp) fun K hK=>?_);simp(disch:=omega) only[kc,ab,ak,ac,Value.oneCell',ah,bC];apply hK)
        refine⟨⟨1,by omega⟩,by simp only;omega,aj ⟨?_,trivial⟩ ?_⟩
        ·rfl
        ·simp[b9,bo,bj]
       |succ j=>
        have h01:(0==i+1)=false:=by simp
        rw[Kw,JS]
        (refine aa [] fun K hK=>?_;simp(disch:=omega) only[kc,ab,ck,Hm,ak,ah,bA];apply hK)
        refine ae (af rfl (fun _=>aq ?_) (fun h=>by simp at h<;>omega))
        refine ae (aI ?_)
        (refine aa [] fun K hK=>?_;simp(disch:=omega) only[kc,ab,Nat.reduceAdd,ag,au,ao,aL,bG,hr,fR,b7,aA,ce];apply hK)
        ((refine dW bY [] [] (by kernel_rfl) (by simp) fun K hK=>?_);simp(disch:=omega) only[kc,ab,Nat.reduceAdd,rh,ag,au,ao,aL,b7,bH,mM hsl,aA,ce,bM,bG,hjr,fI,dL,fF,b8,aN,aC,gK,fW,cellsOf,isPure,Nat.reduceMul,Nat.reduceLeDiff,List.contains_nil,ka,cW,iX,bJ,newsOf,mM hrl,j8,eI,eJ,cq,ef,eZ,and_true,d7,List.map_append,yo,aT,List.map_replicate,Fv,em,xG,mN hrl,df,aS,h01,aJ,cP,az,putCells,mN hsl,reduceCtorEq,false_and,List.length_append,hrl];apply hK)
        show bT _ _ _ _
        ((refine aU [] [] (by simp) fun K hK=>?_);simp(disch:=omega) only[kc,ab,ak,ac,Value.oneCell',ah,bC];apply hK)
        refine⟨⟨j+1+1,by omega⟩,by simp only;omega,aj ⟨?_,trivial⟩ ?_⟩
        ·show _=JS 22 n n (io g) i (j+1)
         rw[JS,rh,mU (j+1)];rfl
        ·simp[b9,bo,bj]
      ·have hjc:j=n:=by omega
       subst hjc
       (refine aa [] fun K hK=>?_;simp(disch:=omega) only[kc,ab,ck,Hm,ak,ah,bf];apply hK)
       refine ae (af rfl (fun h=>by simp at h<;>omega) (fun _=>bv ?_))
       show bT _ _ _ _
       rw[Jo _ (by omega) hm]
       ((refine aU [] [] (by simp) fun K hK=>?_);simp(disch:=omega) only[kc,ab,ak,ac,Value.oneCell',ah,bC];apply hK)
       refine⟨⟨i+1,by omega⟩,by simp only;omega,aj ⟨rfl,trivial⟩ ?_⟩
       simp[b9,bo,bj]
    ·have hin:i=n:=by omega
     subst hin
     (refine aa [] fun K hK=>?_;simp(disch:=omega) only[kc,ab,ck,Hm,ak,ah,bf];apply hK)
     refine ae (af rfl (fun h=>by simp at h<;>omega) (fun _=>bv ?_))
     show bT _ _ _ _
     rw[nM]
     refine bT.weak ((cQ 22 (dK (d:=22) (n:=i) (c:=i) (f:=io g) rfl)).trans (aj (tm:=[ck M,jk,jk,jk,jk,jk,ck (cd i i (io g)),jk,jk,jk,jk,jk,jk,jk,jk,jk,jk,jk,jk,jk,jk,jk,jk,jk,jk,jk,jk,jk,jk,jk,jk,jk,jk,jk,jk,jk,jk,jk,jk,jk,jk,jk,jk,jk,jk,jk,jk,jk,jk,jk,jk,jk,jk,jk]) (l:=[]) trivial (by simp[b9,bo,bj];exact⟨rfl,(jZ (H:=Hm [(22,eK 22 i i (io g))]) (d:=22) (n:=i) (c:=i) (f:=io g) rfl).symm⟩))) ?_
     (refine aa [⟨2,_,_,_,cG⟩] fun K hK=>?_;simp(disch:=omega) only[kc,ck,jE,ar.a,ab,Nat.reduceAdd,Hm,ai,aN,aC,List.find?_cons,aD,aX,CallRes.plain,List.isEmpty_cons,aF,aH,ap,Bool.not_false,noRefTV,am,Bool.or_false,aG,aE,dm,aV,ak];apply hK)
     refine ay ⟨.inr rfl,wq (d:=51) (c:=k) (F:=V) ?_ ?_⟩
     ·exact dY 0 51 _ _ _
     ·simp(disch:=omega) only[bE,Tryz.results11,cY,aP,List.getElem?_cons_succ,List.getElem?_cons_zero,Option.bind_some,bX,Option.map_some]
  ·rw[lE hu]at cU
   rw[jz (fun h=>hu h.2)]
   refine ax Tryz.func11 rfl (by kernel_rfl) ?_;rw[Tryz.ntmps11]
   (refine aa [] fun K hK=>?_;simp(disch:=omega) only[kc,ab,ck,Nat.reduceAdd,List.replicate,ac,Value.oneCell'];apply hK)
   (refine ae (aa [⟨7,_,_,_,cU⟩] fun K hK=>?_);simp(disch:=omega) only[kc,ck,ar.a,ab,Nat.reduceAdd,aw,au,aL,aR,hlen,ak,ah,bA,aB,ai,aN,aC,List.find?_cons,aD,aX,CallRes.plain,aF,aH,ap,noRefTV,am,aG,aE,bH,bW,dc,Bool.not_false,aQ];apply hK)
   refine af rfl (fun _=>?_) (fun h=>by simp at h)
   (refine aa [] fun K hK=>?_;simp(disch:=omega) only[kc,ab,ac,Value.oneCell'];apply hK)
   refine ay ⟨.inr rfl,iR rfl rfl ?_⟩
   simp(disch:=omega) only[kc,bE,Tryz.results11,cY,aP,bX]
 ·rw[jz (fun h=>hlen h.1)]
  refine ax Tryz.func11 rfl (by kernel_rfl) ?_;rw[Tryz.ntmps11]
  (refine aa [] fun K hK=>?_;simp(disch:=omega) only[kc,ab,ck,Nat.reduceAdd,List.replicate,ac,Value.oneCell'];apply hK)
  (refine ae (aa [] fun K hK=>?_);simp(disch:=omega) only[kc,ab,Nat.reduceAdd,aw,au,aL,aR,ak,ah,bf,Bool.not_false,aB,reduceCtorEq,ai,aN,aC,List.find?_nil,aD,bW,Option.map_none,aQ,ac,Value.oneCell'];apply hK)
  refine af rfl (fun _=>?_) (fun h=>by simp at h<;>omega)
  (refine aa [] fun K hK=>?_;simp(disch:=omega) only[kc,ab,ac,Value.oneCell'];apply hK)
  refine ay ⟨.inr rfl,iR rfl rfl ?_⟩
  simp(disch:=omega) only[kc,bE,Tryz.results11,cY,aP,bX]
theorem DA (n c:Nat) (f:Nat->Nat->Int) (hn1:1<=n) (hn:n<=16) (hc1:1<=c) (hc:c<=16) (hf: ∀i j:Nat,i<n->j<c->pr (f i j)):
  CallC Tryz.prog 32 [ci (cd n c f)] ⟨eK 0 n c f,jE n true⟩:=by
 have hS:=mB (cd n c f)
 rw[gO (i4 f hn1 hn hc1 hc),bQ,fK f hn1]at hS
 refine ax Tryz.func32 rfl (by kernel_rfl) ?_;rw[Tryz.ntmps32]
 (refine aa [] fun K hK=>?_;simp(disch:=omega) only[kc,ab,ci,List.replicate,ac,Value.oneCell'];apply hK)
 (refine aa [⟨1,_,_,_,hS⟩] fun K hK=>?_;simp(disch:=omega) only[kc,ci,ar.a,ab,Nat.reduceAdd,ai,aN,aC,List.find?_cons,aD,aX,CallRes.plain,aF,aH,ap,noRefTV,am,aG,aE,aV,ak];apply hK)
 (refine ae (aa [] fun K hK=>?_);simp(disch:=omega) only[kc,ab,bW,ak,dc];apply hK)
 refine af rfl (fun h=>by simp at h) (fun _=>aq ?_)
 show bT _ _ _ _
 (refine aa [] fun K hK=>?_;simp(disch:=omega) only[kc,ab,Nat.reduceAdd,bZ,aN,aC,aL,gX,b7,jT,Int.natCast_nonneg,Value.oneCell',and_true,bH];apply hK)
 (refine ae (aa [] fun K hK=>?_);simp(disch:=omega) only[kc,ab,Nat.reduceAdd,aw,au,aL,ac,Value.oneCell'];apply hK)
 refine bD (G:=mz n) (fun g=>⟨[ci (cd n c f),jk,jk,jk,jk,.raw (.int .i64 (c:Int)),jk,.one (.sl 21 0 0 n),jk,jk,jk,jk,jk,jk,jk,jk,jk,jk,jk,jk,jk,jk,jk,.raw (.int .i64 (n:Int)),.raw (.int .i64 (g.i:Int)),jk,jk,jk,jk,jk,jk,jk,jk,jk,jk,jk,jk,jk,jk,jk,jk,jk,jk,jk,jk,jk,jk,jk,jk,jk,jk,jk,jk,jk,jk,jk,jk,jk,jk,jk,jk,jk,jk],Hm [(21,kI 21 n c g.i (part f g.i 0))]⟩) (fun g=>n-g.i) ⟨0,by omega⟩ ?_ ?_
 ·refine aj ⟨?_,trivial⟩ ?_
  ·show[_]=_
   simp[gY,cd]
  ·simp[b9,bo,bj]
 ·rintro⟨i,hi⟩
  simp only
  by_cases hm:i<n
  ·have hr:=cS c f hm
   have k1:=nP (i:=i) (n:=n) 21 c hm
   have k2:=iv (i:=i) (n:=n) 21 c hi
   have k3:=bQ i c (part f i 0)
   have k4:=kW (i:=i) (n:=n) (c:=c) 21 (part f i 0) hm (fun j hj=>by unfold part;rw[if_neg (by omega)])
   have k5:=nO (i:=i+1) (k:=i) (n:=n) 21 c (by omega)
   have k6:=iv (i:=i+1) (n:=n) 21 c (by omega)
   have k7:=dE (n:=i+1) c (part f i 0) (i:=i) (by omega)
   (refine aa [] fun K hK=>?_;simp(disch:=omega) only[kc,ab,ci,Hm,ak,ah,bA];apply hK)
   refine ae (af rfl (fun _=>aq ?_) (fun h=>by simp at h<;>omega))
   refine ae (aI ?_)
   (refine aa [] fun K hK=>?_;simp(disch:=omega) only[kc,ab];apply hK)
   (refine aa [] fun K hK=>?_;simp(disch:=omega) only[kc,ab,Nat.reduceAdd,bZ,aN,aC,bM,gK,dL,j8,Int.natCast_nonneg,Value.oneCell',and_true,bH,Nat.reduceEqDiff,ag,au,ao,aL,aJ,b7,az,df,bJ,k1,putCells,cP,List.length_replicate,List.all_replicate,isPure,List.length_map,k3,aS,aT,Nat.reduceBEq];apply hK)
   refine bT.weak (aj (tm:=[ci (cd n c f),jk,jk,jk,jk,.raw (.int .i64 (c:Int)),jk,.one (.sl 21 0 0 n),.raw (.int .i64 (i:Int)),jk,jk,jk,jk,jk,jk,jk,jk,jk,jk,jk,jk,jk,jk,.raw (.int .i64 (n:Int)),.raw (.int .i64 (i:Int)),jk,jk,jk,jk,jk,jk,jk,jk,jk,jk,jk,jk,jk,jk,jk,jk,jk,jk,jk,jk,jk,jk,jk,jk,jk,jk,jk,jk,jk,jk,jk,jk,jk,jk,jk,jk,jk,jk]) (l:=[(21,kI 21 n c (i+1) (part f i 0))]) ⟨?_,trivial⟩ (by simp[b9,bo,bj])) ?_
   ·first|exact k4|rfl
   (refine aa [] fun K hK=>?_;simp(disch:=omega) only[kc,ab,Nat.reduceAdd,ci,Hm,ag,au,ao,aL,b7,bH,k5,aA,ce,aw,bM,ac,Value.oneCell'];apply hK)
   refine bD (G:=mz c) (fun g=>⟨[ci (cd n c f),jk,jk,jk,jk,.raw (.int .i64 (c:Int)),jk,.one (.sl 21 0 0 n),.raw (.int .i64 (i:Int)),jk,jk,jk,jk,jk,jk,jk,jk,jk,jk,jk,jk,jk,jk,.raw (.int .i64 (n:Int)),.raw (.int .i64 (i:Int)),jk,jk,jk,jk,jk,jk,jk,jk,jk,jk,jk,.raw (.int .i64 (c:Int)),.raw (.int .i64 (g.i:Int)),jk,jk,jk,jk,jk,jk,jk,jk,jk,jk,jk,jk,jk,jk,jk,jk,jk,jk,jk,jk,jk,jk,jk,jk,jk],Hm [(21,kI 21 n c (i+1) (part f i g.i))]⟩) (fun g=>c-g.i) ⟨0,by omega⟩ ?_ ?_
   ·refine aj ⟨rfl,trivial⟩ ?_
    simp[b9,bo,bj]
   ·rintro⟨j,hj⟩
    simp only
    by_cases hm3:j<c
    ·have hjr:=bK (f i) hm3
     have hz:=hf i j hm hm3
     have cI:=vf (f i j) (hz.sz (by omega))
     rw[il,if_pos (show -9223372036854775808<=f i j/\f i j<=9223372036854775807 from hz)]at cI
     have q7:=dE (n:=i+1) c (part f i j) (i:=i) (by omega)
     have q8:=bK (part f i j i) hm3
     (refine aa [] fun K hK=>?_;simp(disch:=omega) only[kc,ab,ci,Hm,ak,ah,bA];apply hK)
     refine ae (af rfl (fun _=>aq ?_) (fun h=>by simp at h<;>omega))
     refine ae (aI ?_)
     (refine aa [] fun K hK=>?_;simp(disch:=omega) only[kc,ab];apply hK)
     (refine aa [⟨7,_,_,_,cI⟩] fun K hK=>?_;simp(disch:=omega) only[kc,tZ,ar.a,ab,Nat.reduceAdd,ag,au,ao,aZ,bG,hr,fR,cw,aA,cu,bL,hjr,fZ,aM,aW,Nat.le_refl,ai,aN,aC,List.find?_cons,aD,aX,CallRes.plain,aF,aH,ap,isPure,noRefTV,am,aG,aE,aV,ak];apply hK)
     (refine ae (aa [] fun K hK=>?_);simp(disch:=omega) only[kc,ab,bW,ak,dc];apply hK)
     refine af rfl (fun h=>by simp at h) (fun _=>aq ?_)
     show bT _ _ _ _
     ((refine aU [] [] (by simp) fun K hK=>?_);simp(disch:=omega) only[kc,ab,Nat.reduceAdd,ag,au,ao,aL,b7,bH,k5,aA,ce,bM,q7,dL,az,df,bJ,cb,fI,q8,cellsOf,Nat.le_refl,isPure,putCells,eG,aS,aT];apply hK)
     show bT _ _ _ _
     ((refine aU [] [] (by simp) fun K hK=>?_);simp(disch:=omega) only[kc,ab,ak,ac,Value.oneCell',ah,bC];apply hK)
     refine⟨⟨j+1,by omega⟩,by simp only;omega,aj ⟨?_,trivial⟩ ?_⟩
     ·show _::_=_::_
      rw[da fun a b _ _=>ji f i j a b]
     ·simp[b9,bo,bj]
    ·have hjc:j=c:=by omega
     subst hjc
     (refine aa [] fun K hK=>?_;simp(disch:=omega) only[kc,ab,ci,Hm,ak,ah,bf];apply hK)
     refine ae (af rfl (fun h=>by simp at h<;>omega) (fun _=>bv ?_))
     show bT _ _ _ _
     ((refine aU [] [] (by simp) fun K hK=>?_);simp(disch:=omega) only[kc,ab,ak,ac,Value.oneCell',ah,bC];apply hK)
     refine⟨⟨i+1,by omega⟩,by simp only;omega,aj ⟨?_,trivial⟩ ?_⟩
     ·show _::_=_::_
      rw[da fun a b _ hb=>kv f i a b hb]
     ·simp[b9,bo,bj]
  ·have hin:i=n:=by omega
   subst hin
   (refine aa [] fun K hK=>?_;simp(disch:=omega) only[kc,ab,ci,Hm,ak,ah,bf];apply hK)
   refine ae (af rfl (fun h=>by simp at h<;>omega) (fun _=>bv ?_))
   show bT _ _ _ _
   have e:kI 21 i c i (part f i 0)=eK 21 i c f:=by
    rw[nM]
    show _::_=_::_
    rw[da fun a b ha _=>ku f a b ha]
   rw[e]
   (refine aa [] fun K hK=>?_;simp(disch:=omega) only[kc,ab,Nat.reduceAdd,ac,Value.oneCell'];apply hK)
   refine ay ⟨.inr rfl,wq (d:=21) rfl ?_⟩
   simp(disch:=omega) only[bE,Tryz.results32,cY,aP,List.getElem?_cons_succ,List.getElem?_cons_zero,Option.bind_some,bX,Option.map_some]
theorem BQ (n c:Nat) (f:Nat->Nat->Int) (hn1:1<=n) (hn:n<=16) (hc1:1<=c) (hc:c<=16) (hf: ∀i j:Nat,i<n->j<c->Sz (f i j) 1024) (hbad: ¬ ∀i,i<n-> ∀j,j<c->pr (f i j)):
  CallC Tryz.prog 32 [ci (cd n c f)] ⟨[],.tup [(false,[.p (.raw (.slice none 0 0))]),(false,[.p (.raw (.bool false))])]⟩:=by
 have hS:=mB (cd n c f)
 rw[gO (i4 f hn1 hn hc1 hc),bQ,fK f hn1]at hS
 refine ax Tryz.func32 rfl (by kernel_rfl) ?_;rw[Tryz.ntmps32]
 (refine aa [] fun K hK=>?_;simp(disch:=omega) only[kc,ab,ci,List.replicate,ac,Value.oneCell'];apply hK)
 (refine aa [⟨1,_,_,_,hS⟩] fun K hK=>?_;simp(disch:=omega) only[kc,ci,ar.a,ab,Nat.reduceAdd,ai,aN,aC,List.find?_cons,aD,aX,CallRes.plain,aF,aH,ap,noRefTV,am,aG,aE,aV,ak];apply hK)
 (refine ae (aa [] fun K hK=>?_);simp(disch:=omega) only[kc,ab,bW,ak,dc];apply hK)
 refine af rfl (fun h=>by simp at h) (fun _=>aq ?_)
 show bT _ _ _ _
 (refine aa [] fun K hK=>?_;simp(disch:=omega) only[kc,ab,Nat.reduceAdd,bZ,aN,aC,aL,gX,b7,jT,Int.natCast_nonneg,Value.oneCell',and_true,bH];apply hK)
 (refine ae (aa [] fun K hK=>?_);simp(disch:=omega) only[kc,ab,Nat.reduceAdd,aw,au,aL,ac,Value.oneCell'];apply hK)
 refine bD (G:=Ir n (fun a=> ∀j,j<c->pr (f a j))) (fun g=>⟨[ci (cd n c f),jk,jk,jk,jk,.raw (.int .i64 (c:Int)),jk,.one (.sl 21 0 0 n),jk,jk,jk,jk,jk,jk,jk,jk,jk,jk,jk,jk,jk,jk,jk,.raw (.int .i64 (n:Int)),.raw (.int .i64 (g.i:Int)),jk,jk,jk,jk,jk,jk,jk,jk,jk,jk,jk,jk,jk,jk,jk,jk,jk,jk,jk,jk,jk,jk,jk,jk,jk,jk,jk,jk,jk,jk,jk,jk,jk,jk,jk,jk,jk,jk],Hm [(21,kI 21 n c g.i (part f g.i 0))]⟩) (fun g=>n-g.i) ⟨0,by omega,fun a h=>by omega⟩ ?_ ?_
 ·refine aj ⟨?_,trivial⟩ ?_
  ·show[_]=_
   simp[gY,cd]
  ·simp[b9,bo,bj]
 ·rintro⟨i,hi,hg⟩
  simp only
  by_cases hm:i<n
  ·have hr:=cS c f hm
   have k1:=nP (i:=i) (n:=n) 21 c hm
   have k2:=iv (i:=i) (n:=n) 21 c hi
   have k3:=bQ i c (part f i 0)
   have k4:=kW (i:=i) (n:=n) (c:=c) 21 (part f i 0) hm (fun j hj=>by unfold part;rw[if_neg (by omega)])
   have k5:=nO (i:=i+1) (k:=i) (n:=n) 21 c (by omega)
   have k6:=iv (i:=i+1) (n:=n) 21 c (by omega)
   have k7:=dE (n:=i+1) c (part f i 0) (i:=i) (by omega)
   (refine aa [] fun K hK=>?_;simp(disch:=omega) only[kc,ab,ci,Hm,ak,ah,bA];apply hK)
   refine ae (af rfl (fun _=>aq ?_) (fun h=>by simp at h<;>omega))
   refine ae (aI ?_)
   (refine aa [] fun K hK=>?_;simp(disch:=omega) only[kc,ab];apply hK)
   (refine aa [] fun K hK=>?_;simp(disch:=omega) only[kc,ab,Nat.reduceAdd,bZ,aN,aC,bM,gK,dL,j8,Int.natCast_nonneg,Value.oneCell',and_true,bH,Nat.reduceEqDiff,ag,au,ao,aL,aJ,b7,az,df,bJ,k1,putCells,cP,List.length_replicate,List.all_replicate,isPure,List.length_map,k3,aS,aT,Nat.reduceBEq];apply hK)
   refine bT.weak (aj (tm:=[ci (cd n c f),jk,jk,jk,jk,.raw (.int .i64 (c:Int)),jk,.one (.sl 21 0 0 n),.raw (.int .i64 (i:Int)),jk,jk,jk,jk,jk,jk,jk,jk,jk,jk,jk,jk,jk,jk,.raw (.int .i64 (n:Int)),.raw (.int .i64 (i:Int)),jk,jk,jk,jk,jk,jk,jk,jk,jk,jk,jk,jk,jk,jk,jk,jk,jk,jk,jk,jk,jk,jk,jk,jk,jk,jk,jk,jk,jk,jk,jk,jk,jk,jk,jk,jk,jk,jk]) (l:=[(21,kI 21 n c (i+1) (part f i 0))]) ⟨?_,trivial⟩ (by simp[b9,bo,bj])) ?_
   ·first|exact k4|rfl
   (refine aa [] fun K hK=>?_;simp(disch:=omega) only[kc,ab,Nat.reduceAdd,ci,Hm,ag,au,ao,aL,b7,bH,k5,aA,ce,aw,bM,ac,Value.oneCell'];apply hK)
   refine bD (G:=Ir c (fun b=>pr (f i b))) (fun g=>⟨[ci (cd n c f),jk,jk,jk,jk,.raw (.int .i64 (c:Int)),jk,.one (.sl 21 0 0 n),.raw (.int .i64 (i:Int)),jk,jk,jk,jk,jk,jk,jk,jk,jk,jk,jk,jk,jk,jk,.raw (.int .i64 (n:Int)),.raw (.int .i64 (i:Int)),jk,jk,jk,jk,jk,jk,jk,jk,jk,jk,jk,.raw (.int .i64 (c:Int)),.raw (.int .i64 (g.i:Int)),jk,jk,jk,jk,jk,jk,jk,jk,jk,jk,jk,jk,jk,jk,jk,jk,jk,jk,jk,jk,jk,jk,jk,jk,jk],Hm [(21,kI 21 n c (i+1) (part f i g.i))]⟩) (fun g=>c-g.i) ⟨0,by omega,fun a h=>by omega⟩ ?_ ?_
   ·refine aj ⟨rfl,trivial⟩ ?_
    simp[b9,bo,bj]
   ·rintro⟨j,hj,hh⟩
    simp only
    by_cases hm3:j<c
    ·have hjr:=bK (f i) hm3
     have cI:=vf (f i j) ((hf i j hm hm3).mono (by omega))
     have q7:=dE (n:=i+1) c (part f i j) (i:=i) (by omega)
     have q8:=bK (part f i j i) hm3
     by_cases hz:pr (f i j)
     ·rw[il,if_pos (show -9223372036854775808<=f i j/\f i j<=9223372036854775807 from hz)]at cI
      have hz1:=hz.1
      have hz2:=hz.2
      (refine aa [] fun K hK=>?_;simp(disch:=omega) only[kc,ab,ci,Hm,ak,ah,bA];apply hK)
      refine ae (af rfl (fun _=>aq ?_) (fun h=>by simp at h<;>omega))
      refine ae (aI ?_)
      (refine aa [] fun K hK=>?_;simp(disch:=omega) only[kc,ab];apply hK)
      (refine aa [⟨7,_,_,_,cI⟩] fun K hK=>?_;simp(disch:=omega) only[kc,tZ,ar.a,ab,Nat.reduceAdd,ag,au,ao,aZ,bG,hr,fR,cw,aA,cu,bL,hjr,fZ,aM,aW,Nat.le_refl,ai,aN,aC,List.find?_cons,aD,aX,CallRes.plain,aF,aH,ap,isPure,noRefTV,am,aG,aE,aV,ak];apply hK)
      (refine ae (aa [] fun K hK=>?_);simp(disch:=omega) only[kc,ab,bW,ak,dc];apply hK)
      refine af rfl (fun h=>by simp at h) (fun _=>aq ?_)
      show bT _ _ _ _
      ((refine aU [] [] (by simp) fun K hK=>?_);simp(disch:=omega) only[kc,ab,Nat.reduceAdd,ag,au,ao,aL,b7,bH,k5,aA,ce,bM,q7,dL,az,df,bJ,cb,fI,q8,cellsOf,Nat.le_refl,isPure,putCells,eG,aS,aT];apply hK)
      show bT _ _ _ _
      ((refine aU [] [] (by simp) fun K hK=>?_);simp(disch:=omega) only[kc,ab,ak,ac,Value.oneCell',ah,bC];apply hK)
      refine⟨⟨j+1,by omega,fun b hb=>by
        by_cases h:b=j
        ·subst h;exact hz
        ·exact hh b (by omega)⟩,by simp only;omega,aj ⟨?_,trivial⟩ ?_⟩
      ·show _::_=_::_
       rw[da fun a b _ _=>ji f i j a b]
      ·simp[b9,bo,bj]
     ·rw[il,if_neg (show ¬(-9223372036854775808<=f i j/\f i j<=9223372036854775807)from hz)]at cI
      (refine aa [] fun K hK=>?_;simp(disch:=omega) only[kc,ab,ci,Hm,ak,ah,bA];apply hK)
      refine ae (af rfl (fun _=>aq ?_) (fun h=>by simp at h<;>omega))
      refine ae (aI ?_)
      (refine aa [] fun K hK=>?_;simp(disch:=omega) only[kc,ab];apply hK)
      (refine aa [⟨7,_,_,_,cI⟩] fun K hK=>?_;simp(disch:=omega) only[kc,tZ,ar.a,ab,Nat.reduceAdd,ag,au,ao,aZ,bG,hr,fR,cw,aA,cu,bL,hjr,fZ,aM,aW,Nat.le_refl,ai,aN,aC,List.find?_cons,aD,aX,CallRes.plain,aF,aH,ap,isPure,noRefTV,am,aG,aE,aV,ak];apply hK)
      (refine ae (aa [] fun K hK=>?_);simp(disch:=omega) only[kc,ab,bW,ak,dc,Bool.not_false];apply hK)
      refine af rfl (fun _=>?_) (fun h=>by simp at h)
      (refine aa [] fun K hK=>?_;simp(disch:=omega) only[kc,ab,ac,Value.oneCell'];apply hK)
      (refine ay ⟨.inr rfl,aO rfl ?_ rfl⟩;simp(disch:=omega) only[bE,Tryz.results32,cY,aP,List.getElem?_cons_succ,List.getElem?_cons_zero,Option.bind_some,bX,Option.map_some])
    ·have hjc:j=c:=by omega
     subst hjc
     (refine aa [] fun K hK=>?_;simp(disch:=omega) only[kc,ab,ci,Hm,ak,ah,bf];apply hK)
     refine ae (af rfl (fun h=>by simp at h<;>omega) (fun _=>bv ?_))
     show bT _ _ _ _
     ((refine aU [] [] (by simp) fun K hK=>?_);simp(disch:=omega) only[kc,ab,ak,ac,Value.oneCell',ah,bC];apply hK)
     refine⟨⟨i+1,by omega,fun a ha=>by
      by_cases h:a=i
      ·subst h;exact hh
      ·exact hg a (by omega)⟩,by simp only;omega,aj ⟨?_,trivial⟩ ?_⟩
     ·show _::_=_::_
      rw[da fun a b _ hb=>kv f i a b hb]
     ·simp[b9,bo,bj]
  ·have hin:i=n:=by omega
   subst hin
   exact absurd hg hbad
theorem yG (n c j:Nat) (g:Nat->Nat->Int) (hn:n<=16) (hj:j<c):CallC Tryz.prog 31 [ck (cd n c g),.raw (.int .i64 (j:Int))] ⟨[],qE (de n (io g j))⟩:=by
 have hml:=bQ n c g
 refine ax Tryz.func31 rfl (by kernel_rfl) ?_;rw[Tryz.ntmps31]
 (refine aa [] fun K hK=>?_;simp(disch:=omega) only[kc,ab,ck,Nat.reduceAdd,List.replicate,ac,Value.oneCell'];apply hK)
 (refine aa [] fun K hK=>?_;simp(disch:=omega) only[kc,ab,ac,Value.oneCell'];apply hK)
 (refine ae (aa [] fun K hK=>?_);simp(disch:=omega) only[kc,ab,Nat.reduceAdd,aw,au,aL,aR,hml,ac,Value.oneCell'];apply hK)
 refine bD (G:=mz n) (fun q=>⟨[ck (cd n c g),.raw (.int .i64 (j:Int)),jk,jk,jk,.one (.sl 21 0 0 q.i),jk,jk,.raw (.int .i64 (n:Int)),.raw (.int .i64 (q.i:Int)),jk,jk,jk,jk,jk,jk,jk,jk,jk,jk,jk,jk,jk,jk],Hm [(21,[⟨2,1,lc fI (de q.i (io g j))⟩])]⟩) (fun q=>n-q.i) ⟨0,by omega⟩ ?_ ?_
 ·refine(fG (k:=5) (d:=21) 2 1 (by omega) rfl rfl).trans (aj ⟨rfl,trivial⟩ ?_)
  simp[b9,bo,bj]
 ·rintro⟨i,hi⟩
  simp only
  by_cases hm:i<n
  ·have hr:=cS c g hm
   have hjr:=bK (g i) hj
   have e1:lc fI (de i (io g j))++[[AV.p (.raw (.int .i64 (g i j)))]]=lc fI (de (i+1) (io g j)):=by
    rw[xG,mU i];rfl
   (refine aa [] fun K hK=>?_;simp(disch:=omega) only[kc,ab,ck,Hm,ak,ah,bA];apply hK)
   refine ae (af rfl (fun _=>aq ?_) (fun h=>by simp at h<;>omega))
   refine ae (aI ?_)
   (refine aa [] fun K hK=>?_;simp(disch:=omega) only[kc,ab];apply hK)
   ((refine aU [] [] (by simp) fun K hK=>?_);simp(disch:=omega) only[kc,ab,Nat.reduceAdd,ag,au,ao,aL,bG,hr,fR,b7,aA,ce,bM,hjr,fI,dL,fF,b8,aN,aC,gK,fW,cellsOf,isPure,Nat.reduceMul,Nat.reduceLeDiff,List.contains_nil,ka,bH,cW,iX,bJ,newsOf,j8,eI,eJ,cq,ef,eZ,and_true,d7,em,e1,df,aS,aT];apply hK)
   show bT _ _ _ _
   ((refine aU [] [] (by simp) fun K hK=>?_);simp(disch:=omega) only[kc,ab,ak,ac,Value.oneCell',ah,bC];apply hK)
   refine⟨⟨i+1,by omega⟩,by simp only;omega,aj ⟨rfl,trivial⟩ ?_⟩
   simp[b9,bo,bj]
  ·have hin:i=n:=by omega
   subst hin
   (refine aa [] fun K hK=>?_;simp(disch:=omega) only[kc,ab,ck,Hm,ak,ah,bf];apply hK)
   refine ae (af rfl (fun h=>by simp at h<;>omega) (fun _=>bv ?_))
   show bT _ _ _ _
   (refine aa [] fun K hK=>?_;simp(disch:=omega) only[kc,ab];apply hK)
   refine ay ⟨.inr rfl,lk 21 (dH rfl) ?_ rfl⟩
   have eT:List.take i (de i (io g j))=de i (io g j):=List.take_of_length_le (by rw[cq];omega)
   simp(disch:=omega) only[kc,bE,Tryz.results31,aP,gH,fu,bH,eB,eT,d8,qE]
theorem Hz {M:List (List Int)} (hM:ch M=true):M=cd M.length M.length (ent M):=by
 obtain⟨h1,h8,hsq,hr⟩:=(ib M).1 hM
 refine Bf fun r hr=>?_
 obtain⟨i,hi⟩:=List.mem_iff_getElem?.1 hr
 exact hsq.at_ hi
def KT (n:Nat) (h g:Nat->Nat->Int):Prop:=(∀a,a<n->ve (de n (io g a))=true)/\Dt n h g
theorem Dl {M:List (List Int)} {n:Nat} {g:Nat->Nat->Int} (hM:ch M=true) (hn:M.length=n) (hu:lP (cd n n g)) (hp:KT n (ent M) g):ng M (cd n n g)=⟨eK 0 n n (jX n (ent M) g),jE n true⟩:=by
 have hcols:lV (cd n n g)=cd n n (io g):=by
  unfold lV
  rw[bQ]
  exact ko fun i j hi hj=>oK g hj hi
 rw[kE ⟨by rw[bQ,hn],hu⟩,hcols]
 have hG:JQ M (cd n n (io g)):=(rt hn).2 ⟨hM,hp.1,hp.2⟩
 rw[pH hG,bQ]
 have e:eK 0 n n (vG M (cd n n (io g)))=eK 0 n n (jX n (ent M) g):=by
  show _::_=_::_
  rw[da fun a b ha hb=>wN hM hn ha hb (fY.2 ⟨by rw[cq],hp.1 a ha⟩) (fY.2 ⟨by rw[cq],hp.1 b hb⟩)]
 rw[e]
theorem Dk {M:List (List Int)} {n:Nat} {g:Nat->Nat->Int} (hn:M.length=n) (hp: ¬KT n (ent M) g):ng M (cd n n g)=⟨eK 0 0 0 (fun _ _=>0),jE 0 false⟩:=by
 have hcols:lV (cd n n g)=cd n n (io g):=by
  unfold lV
  rw[bQ]
  exact ko fun i j hi hj=>oK g hj hi
 by_cases h:(cd n n g).length=M.length/\lP (cd n n g)
 ·rw[kE h,hcols,oL (fun hG=>hp ⟨((rt hn).1 hG).2.1,((rt hn).1 hG).2.2⟩)];rfl
 ·exact jz h
theorem Aj {M t:List (List Int)} (hM:ch M=false):ng M t=⟨eK 0 0 0 (fun _ _=>0),jE 0 false⟩:=by
 by_cases h:t.length=M.length/\lP t
 ·rw[kE h,oL (fun hG=>by rw[hG.1]at hM;cases hM)];rfl
 ·exact jz h
theorem sQ (M:List (List Int)) (n:Nat) (g:Nat->Nat->Int) (hM:MI M) (hred:ch M=true) (hn:M.length=n) (hu:lP (cd n n g)) (hg: ∀i j,pr (g i j)):
  CallC Tryz.prog 12 [ck M,ck (cd n n g)] (ng M (cd n n g)):=by
 have hs:=ee hred
 have hn1:1<=n:=by rw[<- hn];exact hs.1
 have hn8:n<=8:=by rw[<- hn];exact hs.2.1
 have eM:=Hz hred
 have cR:=jF M hM
 have cU:=zX (cd n n g) (ry hg)
 rw[hred]at cR
 rw[pq hu]at cU
 have hyes:=Dl hred hn hu
 have hno:=Dk (g:=g) hn
 have hI:=fun i j=>hM.ent i j
 rw[hn]at eM
 generalize ent M=h at*
 have hml:=bQ n n g
 have cM:=Gk n n h hn1 (by omega) hn1 (by omega) (fun i j _ _=>hI i j)
 have cT:=Gk n n g hn1 (by omega) hn1 (by omega) (fun i j _ _=>hg i j)
 have cC:=qi n h g hn1 (by omega) (fun i j _ _=>(hI i j).sz (by omega)) (fun i j _ _=>(hg i j).sz (by omega))
 have csz: ∀i j:Nat,i<n->j<n->Sz (jX n h g i j) 1024:=fun i j _ _=>
  (vW (b:=2+2+n) (c:=2) (fun p hp=>vW (b:=2) (c:=2) (fun q _=>(hg q i).sz (by omega)) (fun q _=>(hI q p).sz (by omega))) (fun p _=>(hg p j).sz (by omega))).mono (by omega)
 clear hs hI
 generalize ng M (cd n n g)=res at*
 subst eM
 have hmM:=bQ n n h
 clear hM hred hu hn
 refine ax Tryz.func12 rfl (by kernel_rfl) ?_;rw[Tryz.ntmps12]
 (refine aa [] fun K hK=>?_;simp(disch:=omega) only[kc,ab,ck,Nat.reduceAdd,List.replicate,ac,Value.oneCell'];apply hK)
 (refine ae (aa [⟨1,_,_,_,cR⟩,⟨5,_,_,_,cU⟩] fun K hK=>?_);simp(disch:=omega) only[kc,ck,ar.a,ab,Nat.reduceAdd,ai,aN,aC,List.find?_cons,aD,aX,CallRes.plain,aF,aH,ap,noRefTV,am,aG,aE,bW,ak,dc,aB,Nat.reduceBEq,bH,aQ,aw,au,aL,aR,hml,hmM,ah,bA];apply hK)
 refine af rfl (fun h=>by simp at h<;>omega) (fun _=>aq ?_)
 show bT _ _ _ _
 (refine ae (aa [] fun K hK=>?_);simp(disch:=omega) only[kc,ab,Nat.reduceAdd,aw,au,aL,aR,hml,ac,Value.oneCell'];apply hK)
 refine bD (G:=Ir n (fun a=>ve (de n (io g a))=true)) (fun q=>⟨[ck (cd n n h),ck (cd n n g),jk,jk,jk,jk,jk,jk,jk,jk,jk,jk,jk,jk,jk,jk,jk,jk,jk,jk,jk,jk,jk,jk,jk,jk,jk,.raw (.int .i64 (n:Int)),.raw (.int .i64 (q.i:Int)),jk,jk,jk,jk,jk,jk,jk,jk,jk,jk,jk,jk,jk,jk,jk,jk,jk,jk,jk,jk,jk,jk,jk,jk,jk,jk,jk,jk,jk,jk,jk,jk,jk,jk,jk,jk,jk,jk,jk,jk,jk,jk,jk,jk,jk,jk,jk,jk,jk,jk,jk],Hm []⟩) (fun q=>n-q.i) ⟨0,by omega,fun a h=>by omega⟩ ?_ ?_
 ·refine aj trivial ?_
  simp[b9,bo,bj]
 ·rintro⟨j,hj,hin⟩
  simp only
  by_cases hm:j<n
  ·have cO:=yG n n j g (by omega) hm
   have cI:=Ew (de n (io g j))
   cases hb:ve (de n (io g j))with
   |true=>
    rw[hb]at cI
    (refine aa [] fun K hK=>?_;simp(disch:=omega) only[kc,ab,ck,Hm,ak,ah,bA];apply hK)
    refine ae (af rfl (fun _=>aq ?_) (fun h=>by simp at h<;>omega))
    refine ae (aI ?_)
    (refine aa [] fun K hK=>?_;simp(disch:=omega) only[kc,ab];apply hK)
    (refine aa [⟨2,_,_,_,cO⟩,⟨3,_,_,_,cI⟩] fun K hK=>?_;simp(disch:=omega) only[kc,ck,qE,ar.a,ab,Nat.reduceAdd,ai,aN,aC,List.find?_cons,aD,aX,CallRes.plain,aF,aH,ap,noRefTV,am,aG,aE,Nat.reduceBEq,bW,ak,dc];apply hK)
    refine af rfl (fun h=>by simp at h) (fun _=>aq ?_)
    show bT _ _ _ _
    ((refine aU [] [] (by simp) fun K hK=>?_);simp(disch:=omega) only[kc,ab,ak,ac,Value.oneCell',ah,bC];apply hK)
    refine⟨⟨j+1,by omega,fun a ha=>?_⟩,by simp only;omega,aj trivial ?_⟩
    ·by_cases h:a=j
     ·subst h;exact hb
     ·exact hin a (by omega)
    ·simp[b9,bo,bj]
   |false=>
    rw[hb]at cI
    rw[hno (fun h=>by have:=h.1 j hm;rw[hb]at this;cases this)]
    (refine aa [] fun K hK=>?_;simp(disch:=omega) only[kc,ab,ck,Hm,ak,ah,bA];apply hK)
    refine ae (af rfl (fun _=>aq ?_) (fun h=>by simp at h<;>omega))
    refine ae (aI ?_)
    (refine aa [] fun K hK=>?_;simp(disch:=omega) only[kc,ab];apply hK)
    (refine aa [⟨2,_,_,_,cO⟩,⟨3,_,_,_,cI⟩] fun K hK=>?_;simp(disch:=omega) only[kc,ck,qE,ar.a,ab,Nat.reduceAdd,ai,aN,aC,List.find?_cons,aD,aX,CallRes.plain,aF,aH,ap,noRefTV,am,aG,aE,Nat.reduceBEq,bW,ak,dc,Bool.not_false];apply hK)
    refine af rfl (fun _=>?_) (fun h=>by simp at h)
    (refine aa [] fun K hK=>?_;simp(disch:=omega) only[kc,ab,ac,Value.oneCell'];apply hK)
    refine ay ⟨.inr rfl,iR rfl rfl ?_⟩
    simp(disch:=omega) only[kc,bE,Tryz.results12,cY,aP,bX]
  ·have hjn:j=n:=by omega
   subst hjn
   (refine aa [] fun K hK=>?_;simp(disch:=omega) only[kc,ab,ck,Hm,ak,ah,bf];apply hK)
   refine ae (af rfl (fun h=>by simp at h<;>omega) (fun _=>bv ?_))
   show bT _ _ _ _
   by_cases hall: ∀i,i<j-> ∀k,k<j->pr (jX j h g i k)
   ·have cO:=DA j j (jX j h g) hn1 (by omega) hn1 (by omega) (fun i k hi hk=>hall i hi k hk)
    obtain⟨n,hnj⟩: ∃n,n=j:=⟨_,rfl⟩
    subst hnj
    (refine aa [⟨1,_,_,_,cM⟩,⟨3,_,_,_,cT⟩,⟨4,_,_,_,cC⟩,⟨5,_,_,_,cO⟩] fun K hK=>?_;simp(disch:=omega) only[kc,ck,ci,jE,ar.a,ab,Nat.reduceAdd,ai,aN,aC,List.find?_cons,aD,aX,CallRes.plain,aF,aH,ap,noRefTV,am,aG,aE,Nat.reduceBEq,List.isEmpty_cons,Bool.not_false,Bool.or_false,dm,aV,ak];apply hK)
    refine bT.weak (aj (tm:=[jk,jk,jk,jk,jk,jk,jk,.one (.sl 43 0 0 n),jk,jk,jk,jk,jk,jk,jk,jk,jk,jk,jk,jk,jk,jk,jk,jk,jk,jk,jk,jk,jk,jk,jk,jk,jk,jk,jk,jk,jk,jk,jk,jk,jk,jk,jk,jk,jk,jk,jk,jk,jk,jk,jk,jk,jk,jk,jk,jk,jk,jk,jk,jk,jk,jk,jk,jk,jk,jk,jk,jk,jk,jk,jk,jk,jk,jk,jk,jk,jk,jk,jk,jk]) (l:=[(43,eK 43 n n (jX n h g))]) ⟨dY 0 43 _ _ _,trivial⟩ (by simp[b9,bo,bj])) ?_
    have hC:Dt n h g->res=⟨eK 0 n n (jX n h g),jE n true⟩:=fun h=>hyes ⟨hin,h⟩
    have hN: ¬Dt n h g->res=⟨eK 0 0 0 (fun _ _=>0),jE 0 false⟩:=fun h=>hno fun hp=>h hp.2
    unfold Dt at hC hN
    clear hyes hno csz cO cC cT cM cU cR hin
    generalize jX n h g=C at*
    (refine ae (aa [] fun K hK=>?_);simp(disch:=omega) only[kc,ab,Nat.reduceAdd,Hm,aw,au,aL,ac,Value.oneCell'];apply hK)
    refine bD (G:=Ir n (fun a=> ∀b,b<n-> -4611686018427387904<=C a b/\C a b<=4611686018427387904)) (fun q=>⟨[jk,jk,jk,jk,jk,jk,jk,.one (.sl 43 0 0 n),jk,jk,jk,jk,jk,jk,jk,jk,jk,jk,jk,jk,jk,jk,jk,jk,jk,jk,jk,jk,jk,jk,jk,jk,jk,jk,jk,jk,jk,jk,jk,jk,jk,jk,jk,jk,jk,jk,jk,.raw (.int .i64 (n:Int)),.raw (.int .i64 (q.i:Int)),jk,jk,jk,jk,jk,jk,jk,jk,jk,jk,jk,jk,jk,jk,jk,jk,jk,jk,jk,jk,jk,jk,jk,jk,jk,jk,jk,jk,jk,jk,jk],Hm [(43,eK 43 n n C)]⟩) (fun q=>n-q.i) ⟨0,by omega,fun a h=>by omega⟩ ?_ ?_
    ·refine aj ⟨rfl,trivial⟩ ?_
     simp[b9,bo,bj]
    ·rintro⟨i,hi,hok⟩
     simp only
     by_cases hmi:i<n
     ·have g1:=cX (n:=n) (i:=i) 43 n hmi
      have g3:=dE (n:=n) n C (i:=i) hmi
      (refine aa [] fun K hK=>?_;simp(disch:=omega) only[kc,ab,Hm,ak,ah,bA];apply hK)
      refine ae (af rfl (fun _=>aq ?_) (fun h=>by simp at h<;>omega))
      refine ae (aI ?_)
      (refine aa [] fun K hK=>?_;simp(disch:=omega) only[kc,ab];apply hK)
      (refine aa [] fun K hK=>?_;simp(disch:=omega) only[kc,ab,Nat.reduceAdd,aw,au,aL,ac,Value.oneCell'];apply hK)
      refine bD (G:=Ir n (fun b=> -4611686018427387904<=C i b/\C i b<=4611686018427387904)) (fun q=>⟨[jk,jk,jk,jk,jk,jk,jk,.one (.sl 43 0 0 n),jk,.raw (.int .i64 (i:Int)),jk,jk,jk,jk,jk,jk,jk,jk,jk,jk,jk,jk,jk,jk,jk,jk,jk,jk,jk,jk,jk,jk,jk,jk,jk,jk,jk,jk,jk,jk,jk,jk,jk,jk,jk,jk,jk,.raw (.int .i64 (n:Int)),.raw (.int .i64 (i:Int)),jk,jk,jk,.raw (.int .i64 (n:Int)),.raw (.int .i64 (q.i:Int)),jk,jk,jk,jk,jk,jk,jk,jk,jk,jk,jk,jk,jk,jk,jk,jk,jk,jk,jk,jk,jk,jk,jk,jk,jk,jk],Hm [(43,eK 43 n n C)]⟩) (fun q=>n-q.i) ⟨0,by omega,fun a h=>by omega⟩ ?_ ?_
      ·refine aj ⟨rfl,trivial⟩ ?_
       simp[b9,bo,bj]
      ·rintro⟨k,hk,hkk⟩
       simp only
       by_cases hmk:k<n
       ·have g4:=bK (C i) hmk
        by_cases hw: -4611686018427387904<=C i k/\C i k<=4611686018427387904
        ·have hw1:=hw.1
         have hw2:=hw.2
         (refine aa [] fun K hK=>?_;simp(disch:=omega) only[kc,ab,Hm,ak,ah,bA];apply hK)
         refine ae (af rfl (fun _=>aq ?_) (fun h=>by simp at h<;>omega))
         refine ae (aI ?_)
         (refine aa [] fun K hK=>?_;simp(disch:=omega) only[kc,ab];apply hK)
         (refine aa [] fun K hK=>?_;simp(disch:=omega) only[kc,ab,Nat.reduceAdd,ag,au,ao,aL,b7,bH,g1,aA,ce,bM,g3,dL,cb,fI,g4,fF,ak,ac,Value.oneCell',ah,bf,aB,aQ];apply hK)
         refine af rfl (fun h=>by simp at h<;>omega) (fun _=>aq ?_)
         show bT _ _ _ _
         ((refine aU [] [] (by simp) fun K hK=>?_);simp(disch:=omega) only[kc,ab,ak,ac,Value.oneCell',ah,bC];apply hK)
         refine⟨⟨k+1,by omega,fun b hb=>?_⟩,by simp only;omega,aj ⟨rfl,trivial⟩ ?_⟩
         ·by_cases h:b=k
          ·subst h;exact hw
          ·exact hkk b (by omega)
         ·simp[b9,bo,bj]
        ·rw[hN (fun h=>hw (h i hmi k hmk))]
         by_cases hw1:C i k< -4611686018427387904
         ·(refine aa [] fun K hK=>?_;simp(disch:=omega) only[kc,ab,Hm,ak,ah,bA];apply hK)
          refine ae (af rfl (fun _=>aq ?_) (fun h=>by simp at h<;>omega))
          refine ae (aI ?_)
          (refine aa [] fun K hK=>?_;simp(disch:=omega) only[kc,ab];apply hK)
          (refine aa [] fun K hK=>?_;simp(disch:=omega) only[kc,ab,Nat.reduceAdd,ag,au,ao,aL,b7,bH,g1,aA,ce,bM,g3,dL,cb,fI,g4,fF,ak,ac,Value.oneCell',ah,bA,aB,reduceCtorEq,Option.map_none,aQ];apply hK)
          refine af rfl (fun _=>?_) (fun h=>by simp at h<;>omega)
          (refine aa [] fun K hK=>?_;simp(disch:=omega) only[kc,ab,ac,Value.oneCell'];apply hK)
          refine ay ⟨.inr rfl,iR rfl rfl ?_⟩
          simp(disch:=omega) only[kc,bE,Tryz.results12,cY,aP,bX]
         ·have hw2:C i k>4611686018427387904:=by omega
          (refine aa [] fun K hK=>?_;simp(disch:=omega) only[kc,ab,Hm,ak,ah,bA];apply hK)
          refine ae (af rfl (fun _=>aq ?_) (fun h=>by simp at h<;>omega))
          refine ae (aI ?_)
          (refine aa [] fun K hK=>?_;simp(disch:=omega) only[kc,ab];apply hK)
          (refine aa [] fun K hK=>?_;simp(disch:=omega) only[kc,ab,Nat.reduceAdd,ag,au,ao,aL,b7,bH,g1,aA,ce,bM,g3,dL,cb,fI,g4,fF,ak,ac,Value.oneCell',ah,bf,aB,bA,aQ];apply hK)
          refine af rfl (fun _=>?_) (fun h=>by simp at h<;>omega)
          (refine aa [] fun K hK=>?_;simp(disch:=omega) only[kc,ab,ac,Value.oneCell'];apply hK)
          refine ay ⟨.inr rfl,iR rfl rfl ?_⟩
          simp(disch:=omega) only[kc,bE,Tryz.results12,cY,aP,bX]
       ·have hkn:k=n:=by omega
        subst hkn
        (refine aa [] fun K hK=>?_;simp(disch:=omega) only[kc,ab,Hm,ak,ah,bf];apply hK)
        refine ae (af rfl (fun h=>by simp at h<;>omega) (fun _=>bv ?_))
        show bT _ _ _ _
        ((refine aU [] [] (by simp) fun K hK=>?_);simp(disch:=omega) only[kc,ab,ak,ac,Value.oneCell',ah,bC];apply hK)
        refine⟨⟨i+1,by omega,fun a ha=>?_⟩,by simp only;omega,aj ⟨rfl,trivial⟩ ?_⟩
        ·by_cases h:a=i
         ·subst h;exact hkk
         ·exact hok a (by omega)
        ·simp[b9,bo,bj]
     ·have hin':i=n:=by omega
      subst hin'
      rw[hC (fun a ha b hb=>hok a ha b hb)]
      (refine aa [] fun K hK=>?_;simp(disch:=omega) only[kc,ab,Hm,ak,ah,bf];apply hK)
      refine ae (af rfl (fun h=>by simp at h<;>omega) (fun _=>bv ?_))
      show bT _ _ _ _
      (refine aa [] fun K hK=>?_;simp(disch:=omega) only[kc,ab,Nat.reduceAdd,aw,au,aL,ak,ac,Value.oneCell',ah,bA];apply hK)
      refine ay ⟨.inr rfl,wq (d:=43) rfl ?_⟩
      simp(disch:=omega) only[bE,Tryz.results12,cY,aP,List.getElem?_cons_succ,List.getElem?_cons_zero,Option.bind_some,bX,Option.map_some]
   ·have cO:=BQ j j (jX j h g) hn1 (by omega) hn1 (by omega) csz hall
    rw[hno (fun hp=>hall fun i hi k hk=>by have:=hp.2 i hi k hk;exact⟨by omega,by omega⟩)]
    (refine aa [⟨1,_,_,_,cM⟩,⟨3,_,_,_,cT⟩,⟨4,_,_,_,cC⟩,⟨5,_,_,_,cO⟩] fun K hK=>?_;simp(disch:=omega) only[kc,ck,ci,ar.a,ab,Nat.reduceAdd,ai,aN,aC,List.find?_cons,aD,aX,CallRes.plain,aF,aH,ap,noRefTV,am,aG,aE,Nat.reduceBEq,aV,ak];apply hK)
    (refine ae (aa [] fun K hK=>?_);simp(disch:=omega) only[kc,ab,Nat.reduceAdd,aw,au,aL,ac,Value.oneCell'];apply hK)
    refine bD (G:=Unit) (fun _=>⟨[jk,jk,jk,jk,jk,jk,jk,.raw (.slice none 0 0),jk,jk,jk,jk,jk,jk,jk,jk,jk,jk,jk,jk,jk,jk,jk,jk,jk,jk,jk,jk,jk,jk,jk,jk,jk,jk,jk,jk,jk,jk,jk,jk,jk,jk,jk,jk,jk,jk,jk,.raw (.int .i64 0),.raw (.int .i64 0),jk,jk,jk,jk,jk,jk,jk,jk,jk,jk,jk,jk,jk,jk,jk,jk,jk,jk,jk,jk,jk,jk,jk,jk,jk,jk,jk,jk,jk,jk,jk],Hm []⟩) (fun _=>0) () ?_ ?_
    ·refine aj trivial ?_
     simp[b9,bo,bj]
    ·intro _
     (refine aa [] fun K hK=>?_;simp(disch:=omega) only[kc,ab,Hm,ak,ah,bf];apply hK)
     refine ae (af rfl (fun h=>by simp at h) (fun _=>bv ?_))
     show bT _ _ _ _
     (refine aa [] fun K hK=>?_;simp(disch:=omega) only[kc,ab,Nat.reduceAdd,aw,au,aL,ak,ac,Value.oneCell',ah,bf];apply hK)
     refine ay ⟨.inr rfl,iR rfl rfl ?_⟩
     simp(disch:=omega) only[kc,bE,Tryz.results12,cY,aP,bX]
theorem li (M t:List (List Int)) (hM:MI M) (ht:MI t):CallC Tryz.prog 12 [ck M,ck t] (ng M t):=by
 cases hred:ch M with
 |false=>
  have cR:=jF M hM
  rw[hred]at cR
  rw[Aj hred]
  refine ax Tryz.func12 rfl (by kernel_rfl) ?_;rw[Tryz.ntmps12]
  (refine aa [] fun K hK=>?_;simp(disch:=omega) only[kc,ab,ck,Nat.reduceAdd,List.replicate,ac,Value.oneCell'];apply hK)
  (refine ae (aa [⟨1,_,_,_,cR⟩] fun K hK=>?_);simp(disch:=omega) only[kc,ck,ar.a,ab,Nat.reduceAdd,ai,aN,aC,List.find?_cons,aD,aX,CallRes.plain,aF,aH,ap,noRefTV,am,aG,aE,bW,ak,dc,Bool.not_false,aB,reduceCtorEq,Nat.reduceBEq,List.find?_nil,Option.map_none,aQ,ac,Value.oneCell',aw,au,aL];apply hK)
  refine af rfl (fun _=>?_) (fun h=>by simp at h)
  (refine aa [] fun K hK=>?_;simp(disch:=omega) only[kc,ab,ac,Value.oneCell'];apply hK)
  refine ay ⟨.inr rfl,iR rfl rfl ?_⟩
  simp(disch:=omega) only[kc,bE,Tryz.results12,cY,aP,bX]
 |true=>
  by_cases hu:lP t
  ·by_cases hlen:t.length=M.length
   ·have e:=hu.eq
    have hI:=fun i j=>ht.ent i j
    rw[hlen]at e
    rw[e]at hu⊢
    exact sQ M M.length (ent t) hM hred rfl hu hI
   ·have cR:=jF M hM
    have cU:=zX t ht
    rw[hred]at cR
    rw[pq hu]at cU
    have hs:=ee hred
    have hs2:=hs.2.1
    rw[jz (fun h=>hlen h.1)]
    refine ax Tryz.func12 rfl (by kernel_rfl) ?_;rw[Tryz.ntmps12]
    (refine aa [] fun K hK=>?_;simp(disch:=omega) only[kc,ab,ck,Nat.reduceAdd,List.replicate,ac,Value.oneCell'];apply hK)
    (refine ae (aa [⟨1,_,_,_,cR⟩,⟨5,_,_,_,cU⟩] fun K hK=>?_);simp(disch:=omega) only[kc,ck,ar.a,ab,Nat.reduceAdd,ai,aN,aC,List.find?_cons,aD,aX,CallRes.plain,aF,aH,ap,noRefTV,am,aG,aE,bW,ak,dc,aB,Nat.reduceBEq,bH,aQ,aw,au,aL,aR,ah,bf,Bool.not_false];apply hK)
    refine af rfl (fun _=>?_) (fun h=>by simp at h<;>omega)
    (refine aa [] fun K hK=>?_;simp(disch:=omega) only[kc,ab,ac,Value.oneCell'];apply hK)
    refine ay ⟨.inr rfl,iR rfl rfl ?_⟩
    simp(disch:=omega) only[kc,bE,Tryz.results12,cY,aP,bX]
  ·have cR:=jF M hM
   have cU:=zX t ht
   rw[hred]at cR
   rw[lE hu]at cU
   rw[jz (fun h=>hu h.2)]
   refine ax Tryz.func12 rfl (by kernel_rfl) ?_;rw[Tryz.ntmps12]
   (refine aa [] fun K hK=>?_;simp(disch:=omega) only[kc,ab,ck,Nat.reduceAdd,List.replicate,ac,Value.oneCell'];apply hK)
   (refine ae (aa [⟨1,_,_,_,cR⟩,⟨5,_,_,_,cU⟩] fun K hK=>?_);simp(disch:=omega) only[kc,ck,ar.a,ab,Nat.reduceAdd,ai,aN,aC,List.find?_cons,aD,aX,CallRes.plain,aF,aH,ap,noRefTV,am,aG,aE,bW,ak,dc,aB,Nat.reduceBEq,bH,Bool.not_false,aQ,reduceCtorEq,aw,au,aL,Option.map_none,ac,Value.oneCell'];apply hK)
   refine af rfl (fun _=>?_) (fun h=>by simp at h<;>omega)
   (refine aa [] fun K hK=>?_;simp(disch:=omega) only[kc,ab,ac,Value.oneCell'];apply hK)
   refine ay ⟨.inr rfl,iR rfl rfl ?_⟩
   simp(disch:=omega) only[kc,bE,Tryz.results12,cY,aP,bX]
def Dp (i j:Nat) (c:Int) (f:Nat->Nat->Int):Nat->Nat->Int:=fun r b=>
 if i=j then(if c<0 then(if b=i then-f r i else f r b)else f r b)
 else if c=0 then(if b=i then f r j else if b=j then f r i else f r b)
 else if b=i then f r i+c*f r j else f r b
def iO (i j:Nat) (c:Int) (f:Nat->Nat->Int) (m:Nat):Nat->Nat->Int:=fun r b=>if r<m then Dp i j c f r b else f r b
theorem Cj (i j:Nat) (c:Int) (f:Nat->Nat->Int):iO i j c f 0=f:=by funext r b;simp[iO]
theorem pC {i j:Nat} {c:Int} {f:Nat->Nat->Int} {m:Nat} (b:Nat):iO i j c f m m b=f m b:=by simp[iO]
theorem D2 {i j:Nat} {c:Int} {f:Nat->Nat->Int} {m r b:Nat} (h:r<m):iO i j c f m r b=Dp i j c f r b:=by simp[iO,h]
def i6 (L:List Int) (n:Nat):Nat->(Nat->Nat->Int)×Nat
 |0=>(fun i j=>if i=j then 1 else 0,0)
 |k+1=>
  let s:=i6 L n k
  if s.2<L.length then(Dp (iF L s.2 n) (iF L (dq L s.2) n) (Int.tmod (L.getD (dq L (dq L s.2)) 0) 3) s.1,dq L (dq L (dq L s.2)))else s
def Ao (L:List Int) (n:Nat):Nat->Nat->Int:=(i6 L n 12).1
theorem vd {L:List Int} {n k:Nat} (h: ¬(i6 L n k).2<L.length): ∀m,i6 L n (k+m)=i6 L n k
 |0=>rfl
 |m+1=>by
  have ih:=vd h m
  rw[<- Nat.add_assoc,i6]
  rw[ih,if_neg h]
theorem FX {L:List Int} {n k:Nat} (hk:k<=12) (h:k=12\/ ¬(i6 L n k).2<L.length):(i6 L n k).1=Ao L n:=by
 unfold Ao
 rcases h with rfl|h
 ·rfl
 ·have:=vd h (12-k)
  rw[show k+(12-k)=12 by omega]at this
  rw[this]
theorem BL (L:List Int) (n:Nat): ∀k,(i6 L n k).2<=L.length
 |0=>Nat.zero_le _
 |k+1=>by
  have ih:=BL L n k
  rw[i6]
  split
  ·exact gy (gy (gy ih))
  ·exact ih
theorem Jg {i j:Nat} {c:Int} {f:Nat->Nat->Int} {B:Nat} (hc: -2<=c/\c<=2) (h: ∀a b,(f a b).natAbs<=B) (a b:Nat):(Dp i j c f a b).natAbs<=3*B:=by
 have h1:=h a b
 have h2:=h a i
 have h3:=h a j
 unfold Dp
 split
 ·split
  ·split<;>omega
  ·omega
 ·split
  ·split
   ·omega
   ·split<;>omega
  ·split
   ·have:c= -2\/c= -1\/c=1\/c=2:=by omega
    rcases this with rfl|rfl|rfl|rfl<;>omega
   ·omega
theorem FP (x:Int): -2<=Int.tmod x 3/\Int.tmod x 3<=2:=by
 have h1:=Int.tmod_lt_of_pos x (show(0:Int)<3 by omega)
 have h2:=Int.lt_tmod_of_pos x (show(0:Int)<3 by omega)
 omega
theorem BK (L:List Int) (n:Nat): ∀k a b,((i6 L n k).1 a b).natAbs<=3^k
 |0,a,b=>by
  rw[i6]
  show(if a=b then(1:Int)else 0).natAbs<=3^0
  split<;>simp
 |k+1,a,b=>by
  have ih:=BK L n k
  rw[i6]
  split
  ·have:=Jg (i:=iF L (i6 L n k).2 n) (j:=iF L (dq L (i6 L n k).2) n) (FP (L.getD (dq L (dq L (i6 L n k).2)) 0)) ih a b
   exact Nat.le_trans this (by rw[Nat.pow_succ];omega)
  ·have:=ih a b
   exact Nat.le_trans this (by rw[Nat.pow_succ];omega)
theorem tG (L:List Int) (n:Nat) {k:Nat} (hk:k<=12) (a b:Nat): -531441<=(i6 L n k).1 a b/\(i6 L n k).1 a b<=531441:=by
 have h1:=BK L n k a b
 have h2:3^k<=3^12:=Nat.pow_le_pow_right (by omega) hk
 rw[show 3^12=531441 from rfl]at h2
 omega
theorem Ap (L:List Int) (n a b:Nat): -531441<=Ao L n a b/\Ao L n a b<=531441:=tG L n (Nat.le_refl 12) a b
section
section
variable {P:Program} {b:Nat} {ty:TypeId} {cs cs':List PV} {Q:Exit->AS->List PV->Prop} {s:AS}
theorem sX {w0:World} {O X:Nat->Prop} (items:List (ar P)) (it:eQ P) {ow:List Nat} {ops:Array Oper} (hL:fC ops it.i=true) (hF:items.all (fun c=>c.i !=it.i)=true) (hraw:it.args.all aF=true) (hcon:gZ P b ty it.f it.args cs it.res cs') {Q:Exit->Act->World->Prop} {suf:List Nat}:
  ∀(l:List Oper) (k:Nat) (s s':AS) (a:Act) (w:World),(∀(j:Nat) o,l[j]?=some o->ops[k+j]?=some o)->jy P (items.map ar.a++[it]) ow ops (l.zipIdx k) s=some s'->gG b ty w0 O X s (if k<=it.i then cs else cs') a w->
   (∀a' w',gG b ty w0 O X s' (if k+l.length<=it.i then cs else cs') a' w'->wpOps P ops Q suf a' w')->wpOps P ops Q (List.range' k l.length++suf) a w
 |[],k,s,s',a,w,_,h,r,hQ=>by
  simp only[List.zipIdx_nil,jy]at h
  injection h with h
  subst h
  exact hQ a w r
 |o::l,k,s,s',a,w,hl,h,r,hQ=>by
  simp only[List.zipIdx_cons,jy]at h
  split at h
  ·rename_i s1 hs1
   simp only[List.length_cons,List.range'_succ,List.cons_append,wpOps]
   have ho:ops[k]?=some o:=by have:=hl 0 o rfl;simpa using this
   rw[ho]
   simp only
   have:=p8 (Q:=Q) items it ho hL hF hraw hcon (x:=if k<=it.i then cs else cs') (fun hk=>if_pos (by omega)) r hs1 (K:=wpOps P ops Q (List.range' (k+1) l.length++suf)) (fun v w' hr=>sX items it hL hF hraw hcon l (k+1) s1 s' _ _ (fun j o hj=>by have:=hl (j+1) o (by simpa using hj);rwa[show k+(j+1)=k+1+j by omega]at this) h (by
    have e:(if k=it.i then cs' else if k<=it.i then cs else cs')=if k+1<=it.i then cs else cs':=by
     by_cases h1:k=it.i
     ·rw[if_pos h1,if_neg (by omega)]
     ·rw[if_neg h1]
      by_cases h2:k<=it.i
      ·rw[if_pos h2,if_pos (by omega)]
      ·rw[if_neg h2,if_neg (by omega)]
    rw[e]at hr
    exact hr) (fun a' w' hr'=>hQ a' w' (by rw[List.length_cons,show k+(l.length+1)=k+1+l.length by omega];exact hr')))
   split at this
   ·rename_i hw;rw[if_pos hw];exact .inl this
   ·rename_i hw;rw[if_neg hw];exact this
  ·cases h
theorem BV (m1 m2:Nat) {f1 f2:FuncId} {args1 args2:List TV} {res1 res2:CallRes} {cs1 cs2:List PV} (hcon1:gZ P b ty f1 args1 cs res1 cs1) (hcon2:gZ P b ty f2 args2 cs1 res2 cs2) (items:List (ar P)) (ow:List Nat) {id:Nat} {ops:Array Oper}
  (hL1:fC ops m1=true) (hL2:fC ops m2=true) (hF1:items.all (fun c=>c.i !=m1)=true) (hF2:items.all (fun c=>c.i !=m2)=true) (hraw1:args1.all aF=true) (hraw2:args2.all aF=true) (hm:m1<m2) (hl:s.tmps.length<=1000000)
  (h:eE P (items.map ar.a++[⟨m1,f1,args1,res1⟩]) ow (dC ops (ops.toList.take (m1+1)) 0) (some s) (fun s1=>s1.tmps.length<=1000000/\eE P (items.map ar.a++[⟨m2,f2,args2,res2⟩]) ow (dC ops (ops.toList.drop (m1+1)) (m1+1)) (some s1) (fun s'=>Q .normal s' cs2))):f9 P b ty (.region id ops false) Q s cs:=fun w0 O X a w r=>by
 obtain⟨s1,h1,hl1,h2⟩:=dF P _ ow ops _ 0 s _ hl h
 obtain⟨s',h3,h4⟩:=dF P _ ow ops _ (m1+1) s1 _ hl1 h2
 refine wp_region ?_
 have hlt: ∀{m},fC ops m=true->m<ops.size:=fun{m} hL=>by
  unfold fC at hL
  split at hL
  ·rename_i o ho;exact(Array.getElem?_eq_some_iff.1 ho).1
  ·cases hL
 have hm1:=hlt hL1
 have hm2:=hlt hL2
 have hml:(ops.toList.take (m1+1)).length=m1+1:=by rw[List.length_take];simp;omega
 have hsz:ops.size=(ops.toList.take (m1+1)).length+(ops.toList.drop (m1+1)).length:=by rw[hml,List.length_drop];simp;omega
 rw[hsz,List.range_eq_range',<- List.range'_append_1,Nat.zero_add]
 refine sX (w0:=w0) (O:=O) (X:=X) items ⟨m1,f1,args1,res1⟩ hL1 hF1 hraw1 hcon1 (Q:=fun e a' w'=> ∃s' k,Q e s' k/\gG b ty w0 O X s' k a' w') (ops.toList.take (m1+1)) 0 s s1 a w (fun j o hj=>?_) h1 (by simpa using r) fun a' w' hr=>?_
 ·rw[List.getElem?_take]at hj
  split at hj
  ·simpa using hj
  ·cases hj
 ·rw[if_neg (by rw[hml];simp)]at hr
  rw[hml]
  refine pW (w0:=w0) (O:=O) (X:=X) items ⟨m2,f2,args2,res2⟩ hL2 hF2 hraw2 hcon2 (Q:=fun e a' w'=> ∃s' k,Q e s' k/\gG b ty w0 O X s' k a' w') (ops.toList.drop (m1+1)) (m1+1) s1 s' a' w' (fun j o hj=>?_) h3 ?_ (fun a' w' hr=>⟨s',cs2,h4,?_⟩)
  ·rw[List.getElem?_drop]at hj
   simpa using hj
  ·rw[if_pos (show m1+1<=m2 by omega)];exact hr
  ·rw[if_neg (by rw[List.length_drop];simp;omega)]at hr
   exact hr
theorem yS (m1 m2:Nat) {f1 f2:FuncId} {args1 args2:List TV} {res1 res2:CallRes} {cs1 cs2:List PV} (hcon1:gZ P b ty f1 args1 cs res1 cs1) (hcon2:gZ P b ty f2 args2 cs1 res2 cs2) (items:List (ar P)) (ow:List Nat) {id:Nat} {ops:Array Oper} {y:Code}
  (hL1:fC ops m1=true) (hL2:fC ops m2=true) (hF1:items.all (fun c=>c.i !=m1)=true) (hF2:items.all (fun c=>c.i !=m2)=true) (hraw1:args1.all aF=true) (hraw2:args2.all aF=true) (hm:m1<m2) (hl:s.tmps.length<=1000000)
  (h: ∀K:AS->Prop,(∀s1,(s1.tmps.length<=1000000/\ ∀K:AS->Prop,(∀s',f9 P b ty y Q s' cs2->K s')->eE P (items.map ar.a++[⟨m2,f2,args2,res2⟩]) ow (dC ops (ops.toList.drop (m1+1)) (m1+1)) (some s1) K)->K s1)->eE P (items.map ar.a++[⟨m1,f1,args1,res1⟩]) ow (dC ops (ops.toList.take (m1+1)) 0) (some s) K):f9 P b ty (.seq (.region id ops false) y) Q s cs:=
 dz (BV m1 m2 hcon1 hcon2 items ow hL1 hL2 hF1 hF2 hraw1 hraw2 hm hl (h _ fun s1 ⟨q1,q2⟩=>⟨q1,q2 _ fun _ h=>h⟩))
end
theorem EG {w0:World} {O X:Nat->Prop} {a:Act} {w:World} {s:AS} (d:Nat) {ty:TypeId} {cs:List PV} (hd:s.H d=[⟨ty,cs.length,[cs.map AV.p]⟩]) (r:ik w0 O X s a w):
  ∃b,(w0.heap.size<=b\/O b)/\ ¬X b/\gG b ty w0 (fun j=>O j\/j=b) (fun j=>X j\/j=b) ⟨s.tmps.map (zF d b),aJ s.H d []⟩ cs a w:=by
 obtain⟨h1,hsz,ρ,hinv,htm⟩:=r
 have htm:di X ρ s a w:=htm
 have hget:(s.H d)[0]?=some ⟨ty,cs.length,[cs.map AV.p]⟩:=by rw[hd];rfl
 obtain⟨z1,z2,z3⟩:=hinv.objs d 0 _ hget
 cases hρ:ρ d 0 with
 |none=>rw[hρ]at z3;cases z3
 |some bc=>
  obtain⟨b,n⟩:=bc
  rw[hρ]at z3
  obtain⟨cells,p1,p2,p3,p4,p5⟩:=z3
  have hold:=hinv.old d 0 _ b n hget hρ
  have hna: ∀(x y:Nat) o,(aJ s.H d [] x)[y]?=some o->x≠d/\(s.H x)[y]?=some o:=fun x y o ho=>by
   by_cases hx:x=d
   ·subst hx;rw[cz]at ho;simp at ho
   ·rw[bO hx]at ho;exact⟨hx,ho⟩
  have hXo: ∀j,Xo (fun j=>X j\/j=b) ρ (aJ s.H d []) j->Xo X ρ s.H j:=fun j hj=>by
   rcases hj with(hj|rfl)|⟨x,y,o,n',g1,g2⟩
   ·exact .inl hj
   ·exact .inr ⟨d,0,_,n,hget,hρ⟩
   ·exact .inr ⟨x,y,o,n',(hna x y o g1).2,g2⟩
  have hmap: ∀x v,AV.rel ρ s.H (Xo X ρ s.H) w x v->AV.rel ρ (aJ s.H d []) (Xo (fun j=>X j\/j=b) ρ (aJ s.H d [])) w (lL d b x) v:=fun x v hx=>by
   cases x with
   |p x=>exact dy.weaken (fun j _ hj=>hXo j hj) hx
   |sl x r off len=>
    simp only[lL]
    split
    ·trivial
    ·rename_i hxd
     obtain⟨o,g1,g2⟩:=hx
     exact⟨o,by rw[bO hxd];exact g1,g2⟩
   |ptr x r i j=>
    simp only[lL]
    split
    ·rename_i hxd
     subst hxd
     split
     ·rename_i hc
      obtain⟨rfl,rfl,rfl⟩:=hc
      obtain⟨o,b',c',g1,g2,g3,g4⟩:=hx
      rw[hρ]at g2
      injection g2 with g2
      injection g2 with g2 g2'
      subst g2
      rw[g4]
      simp only[Nat.zero_mul,Nat.add_zero]
      exact dy.raw _ rfl
     ·trivial
    ·rename_i hxd
     obtain⟨o,b',c',g1,g2⟩:=hx
     exact⟨o,b',c',by rw[bO hxd];exact g1,g2⟩
   |junk=>trivial
  have hagg: ∀cs v,dv ρ s.H (Xo X ρ s.H) w cs v->dv ρ (aJ s.H d []) (Xo (fun j=>X j\/j=b) ρ (aJ s.H d [])) w (cs.map (lL d b)) v:=fun cs v ⟨vs,g1,g2,g3⟩=>by
   refine⟨vs,g1,by simpa using g2,fun j x hx=>?_⟩
   rw[List.getElem?_map]at hx
   obtain⟨y,hy,rfl⟩:=Option.map_eq_some_iff.1 hx
   obtain⟨u,u1,u2,u3⟩:=g3 j y hy
   exact⟨u,u1,u2,hmap y u u3⟩
  have hrel:gG b ty w0 (fun j=>O j\/j=b) (fun j=>X j\/j=b) ⟨s.tmps.map (zF d b),aJ s.H d []⟩ cs a w:=by
   refine⟨h1,by simpa using hsz,ρ,⟨⟨hinv.keep.os,hinv.keep.tape,hinv.keep.output,hinv.keep.size,fun k hk hn=>hinv.keep.block k hk (fun h=>hn (.inl h))⟩,fun x y o ho=>?_,fun x y x' y' o o' j c c' ho ho'=>hinv.inj x y x' y' o o' j c c' (hna x y o ho).2 (hna x' y' o' ho').2,fun x y o j c ho hj=>?_,fun j hj=>?_,fun x y o ho=>hinv.self x y o (hna x y o ho).2⟩,fun t x hx=>?_,.inr rfl,.inr rfl,?_⟩
   ·obtain⟨hxd,ho'⟩:=hna x y o ho
    obtain⟨q1,q2,q3⟩:=hinv.objs x y o ho'
    refine⟨q1,q2,?_⟩
    cases hr:ρ x y with
    |none=>rw[hr]at q3;exact q3
    |some bc=>
     obtain⟨b',c'⟩:=bc
     rw[hr]at q3
     obtain⟨cells',r1,r2,r3,r4,r5⟩:=q3
     refine⟨cells',r1,r2,r3,r4,fun i e j z he hz=>?_⟩
     obtain⟨u,u1,u2,u3⟩:=r5 i e j z he hz
     have hs:=hinv.self x y o ho' e (List.mem_of_getElem? he) z (List.mem_of_getElem? hz)
     have:=hmap z u u3
     refine⟨u,u1,u2,?_⟩
     cases z with
     |sl z _ _ _=>have hs:z=x:=hs;subst hs;simpa[lL,hxd] using this
     |ptr z _ _ _=>have hs:z=x:=hs;subst hs;simpa[lL,hxd] using this
     |p z=>exact this
     |junk=>trivial
   ·obtain⟨hxd,ho'⟩:=hna x y o ho
    obtain⟨g1,g2⟩:=hinv.old x y o j c ho' hj
    refine⟨?_,?_⟩
    ·rcases g1 with g|g
     ·exact .inl g
     ·exact .inr (.inl g)
    ·rintro(g|rfl)
     ·exact g2 g
     ·exact hxd (hinv.inj x y d 0 o _ j c n ho' hget hj hρ).1
   ·rcases hj with hj|rfl
    ·exact hinv.bar j hj
    ·exact(Array.getElem?_eq_some_iff.1 p1).1
   ·simp only[List.getElem?_map]at hx
    obtain⟨y,hy,rfl⟩:=Option.map_eq_some_iff.1 hx
    obtain⟨v,v1,v2⟩:=htm t y hy
    refine⟨v,v1,?_⟩
    cases y with
    |one x=>exact hmap x v v2
    |agg cs=>exact hagg cs v v2
    |fn f cs=>obtain⟨u,h1,h2⟩:=v2;exact⟨u,hagg cs u h1,h2⟩
    |tup ts=>
     obtain⟨vs,g1,g2,g3⟩:=v2
     refine⟨vs,g1,by simpa using g2,fun j c cs hj=>?_⟩
     rw[List.getElem?_map]at hj
     obtain⟨z,hz,hzz⟩:=Option.map_eq_some_iff.1 hj
     obtain⟨c',cs'⟩:=z
     simp at hzz
     obtain⟨rfl,rfl⟩:=hzz
     obtain⟨u,u1,u2⟩:=g3 j c' cs' hz
     refine⟨u,u1,?_⟩
     rcases u2 with⟨u2,u3⟩|⟨u2,q',rfl,u4⟩
     ·exact .inl ⟨u2,hagg _ _ u3⟩
     ·exact .inr ⟨u2,_,rfl,hmap _ _ u4⟩
   ·refine⟨cells,n,p1,p2,by simpa using p3,p4,z2,fun j x hx=>?_⟩
    obtain⟨v,v1,v2,v3⟩:=p5 0 (cs.map AV.p) j (.p x) rfl (by rw[List.getElem?_map,hx];rfl)
    exact⟨v,by simpa using v1,v2,dy.weaken (fun j _ hj=>hXo j hj) v3⟩
  exact⟨b,hold.1,hold.2,hrel⟩
def xf (d b:Nat):AV->AV
 | .p (.raw (.pointer (some ⟨b',0,none⟩)))=>if b'=b then .ptr d 0 0 0 else .p (.raw (.pointer (some ⟨b',0,none⟩)))
 |x=>x
def I2 (d b:Nat):TV->TV
 | .one x=> .one (xf d b x)
 | .agg cs=> .agg (cs.map (xf d b))
 | .fn f cs=> .fn f (cs.map (xf d b))
 | .tup ts=> .tup (ts.map fun t=>(t.1,t.2.map (xf d b)))
theorem DO {w0:World} {O X:Nat->Prop} {a:Act} {w:World} {s:AS} {b d:Nat} {ty:TypeId} {cs:List PV} (hold:w0.heap.size<=b\/O b) (hnX: ¬X b) (hd:s.H d=[]) (r:gG b ty w0 (fun j=>O j\/j=b) (fun j=>X j\/j=b) s cs a w):
  ik w0 O X ⟨s.tmps.map (I2 d b),aJ s.H d [⟨ty,cs.length,[cs.map AV.p]⟩]⟩ a w:=by
 obtain⟨k1,ksz,ρ,kinv,ktm,_,_,cells,n,p1,p2,p3,p4,p5,p6⟩:=r
 have ktm:di (fun j=>X j\/j=b) ρ s a w:=ktm
 generalize hρ2:newρ ρ d (fun r=>if r=0 then some (b,n)else none)=ρ2
 generalize hH2:aJ s.H d [⟨ty,cs.length,[cs.map AV.p]⟩]=H2
 have hd2:H2 d=[⟨ty,cs.length,[cs.map AV.p]⟩]:=by rw[<- hH2,cz]
 have hne2: ∀x,x≠d->H2 x=s.H x:=fun x hx=>by rw[<- hH2,bO hx]
 have hrd: ∀r,ρ2 d r=if r=0 then some (b,n)else none:=fun r=>by rw[<- hρ2,newρ_eq]
 have hrn: ∀x r,x≠d->ρ2 x r=ρ x r:=fun x r hx=>by rw[<- hρ2,newρ_ne hx]
 have hone: ∀(y:Nat) o,(H2 d)[y]?=some o->y=0/\o=⟨ty,cs.length,[cs.map AV.p]⟩:=fun y o ho=>by
  rw[hd2]at ho
  match y,ho with
  |0,ho=>exact⟨rfl,by simpa using ho.symm⟩
  |y+1,ho=>simp at ho
 have hXo: ∀j,Xo X ρ2 H2 j->Xo (fun j=>X j\/j=b) ρ s.H j:=fun j hj=>by
  rcases hj with hj|⟨x,y,o,c,g1,g2⟩
  ·exact .inl (.inl hj)
  ·by_cases hx:x=d
   ·subst hx
    obtain⟨rfl,_⟩:=hone y o g1
    rw[hrd,if_pos rfl]at g2
    injection g2 with g2
    injection g2 with g2
    exact .inl (.inr g2.symm)
   ·rw[hne2 x hx]at g1
    rw[hrn x y hx]at g2
    exact .inr ⟨x,y,o,c,g1,g2⟩
 have kmap: ∀x v,AV.rel ρ s.H (Xo (fun j=>X j\/j=b) ρ s.H) w x v->AV.rel ρ2 H2 (Xo X ρ2 H2) w x v:=fun x v hx=>by
  cases x with
  |p x=>exact dy.weaken (fun j _ hj=>hXo j hj) hx
  |sl x r off len=>
   obtain⟨o,g1,g2⟩:=hx
   have hxd:x≠d:=by rintro rfl;rw[hd]at g1;simp at g1
   exact⟨o,by rw[hne2 x hxd];exact g1,by rw[hrn x r hxd];exact g2⟩
  |ptr x r i j=>
   obtain⟨o,b',c,g1,g2,g3⟩:=hx
   have hxd:x≠d:=by rintro rfl;rw[hd]at g1;simp at g1
   exact⟨o,b',c,by rw[hne2 x hxd];exact g1,by rw[hrn x r hxd];exact g2,g3⟩
  |junk=>trivial
 have kmapB: ∀x v,AV.rel ρ s.H (Xo (fun j=>X j\/j=b) ρ s.H) w x v->AV.rel ρ2 H2 (Xo X ρ2 H2) w (xf d b x) v:=fun x v hx=>by
  unfold xf
  split
  ·split
   ·rename_i hb
    subst hb
    obtain⟨rfl,_⟩:=dM (ρ:=ρ) (H:=s.H) hx
    exact⟨⟨ty,cs.length,[cs.map AV.p]⟩,_,n,by rw[hd2];rfl,by rw[hrd,if_pos rfl],by simp,by simp⟩
   ·exact kmap _ _ hx
  ·exact kmap _ _ hx
 have hagg: ∀cs v,dv ρ s.H (Xo (fun j=>X j\/j=b) ρ s.H) w cs v->dv ρ2 H2 (Xo X ρ2 H2) w (cs.map (xf d b)) v:=fun cs v ⟨vs,g1,g2,g3⟩=>by
  refine⟨vs,g1,by simpa using g2,fun j x hx=>?_⟩
  rw[List.getElem?_map]at hx
  obtain⟨y,hy,rfl⟩:=Option.map_eq_some_iff.1 hx
  obtain⟨u,u1,u2,u3⟩:=g3 j y hy
  exact⟨u,u1,u2,kmapB y u u3⟩
 refine⟨k1,by simpa using ksz,ρ2,⟨⟨kinv.keep.os,kinv.keep.tape,kinv.keep.output,kinv.keep.size,fun k hk hn=>?_⟩,fun x y o ho=>?_,fun x y x' y' o o' j c c' ho ho' hj hj'=>?_,fun x y o j c ho hj=>?_,fun j hj=>kinv.bar j (.inl hj),fun x y o ho=>?_⟩,fun t x hx=>?_⟩
 ·by_cases hkb:k=b
  ·subst hkb
   exfalso
   rcases hold with g|g
   ·omega
   ·exact hn g
  ·exact kinv.keep.block k hk (fun hh=>by
    rcases hh with hh|hh
    ·exact hn hh
    ·exact hkb hh)
 ·by_cases hx:x=d
  ·subst hx
   obtain⟨rfl,rfl⟩:=hone y o ho
   refine⟨fun e he=>by simp at he;subst he;simp,p5,?_⟩
   rw[hrd,if_pos rfl]
   refine⟨cells,p1,p2,by simpa using p3,p4,fun i e j z he hz=>?_⟩
   match i,he with
   |0,he=>
    simp at he
    subst he
    rw[List.getElem?_map]at hz
    obtain⟨y,hy,rfl⟩:=Option.map_eq_some_iff.1 hz
    obtain⟨v,v1,v2,v3⟩:=p6 j y hy
    exact⟨v,by simpa using v1,v2,dy.weaken (fun j _ hj=>hXo j hj) v3⟩
   |i+1,he=>simp at he
  ·replace ho:(H2 x)[y]?=some o:=ho
   rw[hne2 x hx]at ho
   exact fk (kinv.objs x y o ho) (hrn x y hx) (fun _ _ _=>rfl) kmap
 ·by_cases hx:x=d
  ·subst hx
   obtain⟨rfl,_⟩:=hone y o ho
   rw[hrd,if_pos rfl]at hj
   injection hj with hj
   injection hj with hj _
   subst hj
   by_cases hx':x'=x
   ·subst hx'
    obtain⟨rfl,_⟩:=hone y' o' ho'
    exact⟨rfl,rfl⟩
   ·replace ho':(H2 x')[y']?=some o':=ho'
    rw[hne2 x' hx']at ho'
    rw[hrn x' y' hx']at hj'
    exact absurd (.inr rfl) (kinv.old x' y' o' _ c' ho' hj').2
  ·replace ho:(H2 x)[y]?=some o:=ho
   rw[hne2 x hx]at ho
   rw[hrn x y hx]at hj
   by_cases hx':x'=d
   ·subst hx'
    obtain⟨rfl,_⟩:=hone y' o' ho'
    rw[hrd,if_pos rfl]at hj'
    injection hj' with hj'
    injection hj' with hj' _
    subst hj'
    exact absurd (.inr rfl) (kinv.old x y o _ c ho hj).2
   ·replace ho':(H2 x')[y']?=some o':=ho'
    rw[hne2 x' hx']at ho'
    rw[hrn x' y' hx']at hj'
    exact kinv.inj x y x' y' o o' j c c' ho ho' hj hj'
 ·by_cases hx:x=d
  ·subst hx
   obtain⟨rfl,_⟩:=hone y o ho
   rw[hrd,if_pos rfl]at hj
   injection hj with hj
   injection hj with hj _
   subst hj
   exact⟨hold,hnX⟩
  ·replace ho:(H2 x)[y]?=some o:=ho
   rw[hne2 x hx]at ho
   rw[hrn x y hx]at hj
   obtain⟨g1,g2⟩:=kinv.old x y o j c ho hj
   refine⟨?_,fun hx=>g2 (.inl hx)⟩
   rcases g1 with g|g|g
   ·exact .inl g
   ·exact .inr g
   ·exact absurd (.inr g) g2
 ·by_cases hx:x=d
  ·subst hx
   obtain⟨_,rfl⟩:=hone y o ho
   intro e he z hz
   simp at he
   subst he
   obtain⟨q,_,rfl⟩:=List.mem_map.1 hz
   trivial
  ·replace ho:(H2 x)[y]?=some o:=ho
   rw[hne2 x hx]at ho
   exact kinv.self x y o ho
 ·simp only[List.getElem?_map]at hx
  obtain⟨y,hy,rfl⟩:=Option.map_eq_some_iff.1 hx
  obtain⟨v,v1,v2⟩:=ktm t y hy
  refine⟨v,v1,?_⟩
  cases y with
  |one x=>exact kmapB x v v2
  |agg cs=>exact hagg cs v v2
  |fn f cs=>obtain⟨u,h1,h2⟩:=v2;exact⟨u,hagg cs u h1,h2⟩
  |tup ts=>
   obtain⟨vs,g1,g2,g3⟩:=v2
   refine⟨vs,g1,by simpa using g2,fun j c cs hj=>?_⟩
   rw[List.getElem?_map]at hj
   obtain⟨z,hz,hzz⟩:=Option.map_eq_some_iff.1 hj
   obtain⟨c',cs'⟩:=z
   simp at hzz
   obtain⟨rfl,rfl⟩:=hzz
   obtain⟨u,u1,u2⟩:=g3 j c' cs' hz
   refine⟨u,u1,?_⟩
   rcases u2 with⟨u2,u3⟩|⟨u2,q',rfl,u4⟩
   ·exact .inl ⟨u2,hagg _ _ u3⟩
   ·exact .inr ⟨u2,_,rfl,kmapB _ _ u4⟩
theorem yN {P:Program} {c:Code} {Q:Exit->AS->Prop} {s:AS} (d:Nat) {ty:TypeId} {cs:List PV} (hd:s.H d=[⟨ty,cs.length,[cs.map AV.p]⟩])
  (h: ∀b,f9 P b ty c (fun e s' cs'=>s'.H d=[]/\Q e ⟨s'.tmps.map (I2 d b),aJ s'.H d [⟨ty,cs'.length,[cs'.map AV.p]⟩]⟩) ⟨s.tmps.map (zF d b),aJ s.H d []⟩ cs):bT P c Q s:=fun w0 O X a w r=>by
 obtain⟨b,h1,h2,h3⟩:=EG d hd r
 exact wp_mono (h b _ _ _ _ _ h3) fun e a' w' ⟨s',cs',⟨hq1,hq2⟩,hr⟩=>⟨_,hq2,DO h1 h2 hq1 hr⟩
end
end Go.Proofs.YtpgghglbpcabkaaGreat
