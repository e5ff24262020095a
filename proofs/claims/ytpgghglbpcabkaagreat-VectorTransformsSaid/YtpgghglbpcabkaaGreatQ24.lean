/-
  Part 25 of a proof (walks and plain facts).
-/
import Derived.Test.YtpgghglbpcabkaaGreatQ23
set_option linter.all false
set_option maxRecDepth 100000
set_option maxHeartbeats 64000000
namespace Go.Proofs.YtpgghglbpcabkaaGreat
open Go.RowKit
theorem GI {i:Nat} {c:Int} {f:Nat->Nat->Int} {m:Nat} (hc:c<0) (a b:Nat):upd (iO i i c f m) m i (0-f m i) a b=iO i i c f (m+1) a b:=by
 rw[Int.zero_sub]
 unfold upd iO Dp
 by_cases h1:a=m
 ·subst h1
  by_cases h2:b=i
  ·subst h2;simp[hc]
  ·simp[h2]
 ·have:a<m+1↔a<m:=by omega
  simp[h1,this]
theorem D5 {i j:Nat} {f:Nat->Nat->Int} {m:Nat} (hij:i≠j) (a b:Nat):upd (upd (iO i j 0 f m) m i (f m j)) m j (f m i) a b=iO i j 0 f (m+1) a b:=by
 unfold upd iO Dp
 by_cases h1:a=m
 ·subst h1
  by_cases h2:b=j
  ·subst h2;simp[hij,Ne.symm hij]
  ·by_cases h3:b=i
   ·subst h3;simp[hij]
   ·simp[h2,h3,hij]
 ·have:a<m+1↔a<m:=by omega
  simp[h1,this]
theorem D3 {i j:Nat} {c:Int} {f:Nat->Nat->Int} {m:Nat} (hij:i≠j) (hc:c≠0) (a b:Nat):upd (iO i j c f m) m i (f m i+c*f m j) a b=iO i j c f (m+1) a b:=by
 unfold upd iO Dp
 by_cases h1:a=m
 ·subst h1
  by_cases h2:b=i
  ·subst h2;simp[hij,hc]
  ·simp[h2,hij,hc]
 ·have:a<m+1↔a<m:=by omega
  simp[h1,this]
theorem D4 {i:Nat} {c:Int} {f:Nat->Nat->Int} {m:Nat} (hc: ¬c<0) (a b:Nat):iO i i c f m a b=iO i i c f (m+1) a b:=by
 unfold iO Dp
 simp[hc]
theorem Ha {c x:Int} (h1: -2<=c) (h2:c<=2) (h3: -531441<=x) (h4:x<=531441): -1062882<=c*x/\c*x<=1062882:=by
 have:c= -2\/c= -1\/c=0\/c=1\/c=2:=by omega
 rcases this with rfl|rfl|rfl|rfl|rfl<;>omega
abbrev Ko (L:List Int) (p:Nat):List OObj:=[⟨45,2,[[.p (.sl (ls f8 L)),.p (.raw (.int .i64 (p:Int)))]]⟩]
structure K8 where
 k:Nat
 hk:k<=12
theorem Jv (L:List Int) (n:Nat) (hL:I8 L) (hn1:1<=n) (hn:n<=16):
  CallC Tryz.prog 6 [Dq L,.raw (.int .i64 (n:Int))] ⟨eK 0 n n (Ao L n),.one (.sl 0 0 0 n)⟩:=by
 refine ax Tryz.func6 rfl (by kernel_rfl) ?_;rw[Tryz.ntmps6]
 (refine aa [] fun K hK=>?_;simp(disch:=omega) only[kc,ab,Dq,Nat.reduceAdd,List.replicate,ac,Value.oneCell'];apply hK)
 (refine aa [] fun K hK=>?_;simp(disch:=omega) only[kc,ab,Nat.reduceAdd,bZ,aN,aC,aL,gX,b7,jT,Int.natCast_nonneg,Value.oneCell',and_true,bH];apply hK)
 (refine ae (aa [] fun K hK=>?_);simp(disch:=omega) only[kc,ab,Nat.reduceAdd,aw,au,aL,ac,Value.oneCell'];apply hK)
 refine bD (G:=mz n) (fun g=>⟨[Dq L,.raw (.int .i64 (n:Int)),jk,jk,jk,.one (.sl 14 0 0 n),jk,jk,jk,jk,jk,jk,jk,jk,jk,jk,.raw (.int .i64 (n:Int)),.raw (.int .i64 (g.i:Int)),jk,jk,jk,jk,jk,jk,jk,jk,jk,jk,jk,jk,jk,jk,jk,jk,jk,jk,jk,jk,jk,jk,jk,jk,jk,jk,jk,jk,jk,jk,jk,jk,jk,jk,jk,jk,jk,jk,jk,jk,jk,jk,jk,jk,jk,jk,jk,jk,jk,jk,jk,jk,jk,jk,jk,jk,jk,jk,jk,jk,jk,jk,jk,jk,jk,jk,jk,jk,jk,jk,jk,jk,jk,jk,jk,jk,jk,jk,jk,jk,jk,jk,jk,jk,jk,jk,jk,jk,jk,jk,jk,jk,jk,jk,jk,jk,jk,jk,jk,jk,jk,jk,jk,jk,jk,jk,jk,jk,jk,jk,jk,jk,jk,jk,jk,jk,jk,jk,jk,jk,jk,jk,jk,jk,jk,jk,jk],Hm [(14,kI 14 n n g.i (uQ g.i))]⟩) (fun g=>n-g.i) ⟨0,by omega⟩ ?_ ?_
 ·refine aj ⟨?_,trivial⟩ ?_
  ·show[_]=_
   simp[kI,gY,cd]
  ·simp[b9,bo,bj]
 ·rintro⟨i,hi⟩
  simp only
  by_cases hm:i<n
  ·have k1:=nP (i:=i) (n:=n) 14 n hm
   have k2:=iv (i:=i) (n:=n) 14 n hi
   have k3:=bQ i n (uQ i)
   have k4:=kW (i:=i) (n:=n) (c:=n) 14 (uQ i) hm (fun j hj=>by unfold uQ;rw[if_neg (by omega)])
   have k5:=nO (i:=i+1) (k:=i) (n:=n) 14 n (by omega)
   have k6:=iv (i:=i+1) (n:=n) 14 n (by omega)
   have k7:=dE (n:=i+1) n (uQ i) (i:=i) (by omega)
   have k8:=bK (uQ i i) hm
   (refine aa [] fun K hK=>?_;simp(disch:=omega) only[kc,ab,Dq,Hm,ak,ah,bA];apply hK)
   refine ae (af rfl (fun _=>aq ?_) (fun h=>by simp at h<;>omega))
   refine ae (aI ?_)
   (refine aa [] fun K hK=>?_;simp(disch:=omega) only[kc,ab];apply hK)
   (refine aa [] fun K hK=>?_;simp(disch:=omega) only[kc,ab,Nat.reduceAdd,bZ,aN,aC,bM,gK,dL,j8,Int.natCast_nonneg,Value.oneCell',and_true,bH,Nat.reduceEqDiff,ag,au,ao,aL,aJ,b7,az,df,bJ,k1,putCells,cP,List.length_replicate,List.all_replicate,isPure,List.length_map,k3,k4,aS,aT,Nat.reduceBEq];apply hK)
   refine bT.weak (aj (tm:=[Dq L,.raw (.int .i64 (n:Int)),jk,jk,jk,.one (.sl 14 0 0 n),.raw (.int .i64 (i:Int)),jk,jk,jk,jk,jk,jk,jk,jk,jk,.raw (.int .i64 (n:Int)),.raw (.int .i64 (i:Int)),jk,jk,jk,jk,jk,jk,jk,jk,jk,jk,jk,jk,jk,jk,jk,jk,jk,jk,jk,jk,jk,jk,jk,jk,jk,jk,jk,jk,jk,jk,jk,jk,jk,jk,jk,jk,jk,jk,jk,jk,jk,jk,jk,jk,jk,jk,jk,jk,jk,jk,jk,jk,jk,jk,jk,jk,jk,jk,jk,jk,jk,jk,jk,jk,jk,jk,jk,jk,jk,jk,jk,jk,jk,jk,jk,jk,jk,jk,jk,jk,jk,jk,jk,jk,jk,jk,jk,jk,jk,jk,jk,jk,jk,jk,jk,jk,jk,jk,jk,jk,jk,jk,jk,jk,jk,jk,jk,jk,jk,jk,jk,jk,jk,jk,jk,jk,jk,jk,jk,jk,jk,jk,jk,jk,jk,jk,jk]) (l:=[(14,kI 14 n n (i+1) (uQ i))]) ⟨?_,trivial⟩ (by simp[b9,bo,bj])) ?_
   ·first|exact k4|rfl
   ((refine aU [] [] (by simp) fun K hK=>?_);simp(disch:=omega) only[kc,ab,Nat.reduceAdd,Dq,Hm,ag,au,ao,aL,b7,bH,k5,aA,ce,bM,k7,dL,az,df,bJ,cb,fI,k8,ac,Value.oneCell',cellsOf,Nat.le_refl,isPure,putCells,eG,aS,aT];apply hK)
   show bT _ _ _ _
   ((refine aU [] [] (by simp) fun K hK=>?_);simp(disch:=omega) only[kc,ab,ak,ac,Value.oneCell',ah,bC];apply hK)
   refine⟨⟨i+1,by omega⟩,by simp only;omega,aj ⟨?_,trivial⟩ ?_⟩
   ·show _::_=_::_
    rw[da fun x y _ _=>xZ i x y]
   ·simp[b9,bo,bj]
  ·have hin:i=n:=by omega
   subst hin
   (refine aa [] fun K hK=>?_;simp(disch:=omega) only[kc,ab,Dq,Hm,ak,ah,bf];apply hK)
   refine ae (af rfl (fun h=>by simp at h<;>omega) (fun _=>bv ?_))
   show bT _ _ _ _
   have e:kI 14 i i i (uQ i)=eK 14 i i (i6 L i 0).1:=by
    rw[nM]
    show _::_=_::_
    rw[da fun x y hx _=>Bs x y hx];rfl
   rw[e]
   obtain⟨n,hni⟩: ∃n,n=i:=⟨_,rfl⟩
   subst hni
   (refine aa [] fun K hK=>?_;simp(disch:=omega) only[kc,ab,Nat.reduceAdd,eC,au,u9,yw,Value.oneCell',fm,cellsOf,Nat.reduceLeDiff,bH,cf,aN,aC,isPure,Nat.reduceEqDiff];apply hK)
   (refine ae (aa [] fun K hK=>?_);simp(disch:=omega) only[kc,ab,ac,Value.oneCell'];apply hK)
   refine bD (G:=K8) (fun g=>⟨[jk,.raw (.int .i64 (n:Int)),jk,jk,jk,.one (.sl 14 0 0 n),jk,.one (.ptr 34 0 0 0),.raw (.int .i64 (g.k:Int)),jk,jk,jk,jk,jk,jk,jk,jk,jk,jk,jk,jk,jk,jk,jk,jk,jk,jk,jk,jk,jk,jk,jk,jk,jk,jk,jk,jk,jk,jk,jk,jk,jk,jk,jk,jk,jk,jk,jk,jk,jk,jk,jk,jk,jk,jk,jk,jk,jk,jk,jk,jk,jk,jk,jk,jk,jk,jk,jk,jk,jk,jk,jk,jk,jk,jk,jk,jk,jk,jk,jk,jk,jk,jk,jk,jk,jk,jk,jk,jk,jk,jk,jk,jk,jk,jk,jk,jk,jk,jk,jk,jk,jk,jk,jk,jk,jk,jk,jk,jk,jk,jk,jk,jk,jk,jk,jk,jk,jk,jk,jk,jk,jk,jk,jk,jk,jk,jk,jk,jk,jk,jk,jk,jk,jk,jk,jk,jk,jk,jk,jk,jk,jk,jk,jk,jk],Hm [(14,eK 14 n n (i6 L n g.k).1),(34,Ko L (i6 L n g.k).2)]⟩) (fun g=>12-g.k) ⟨0,by omega⟩ ?_ ?_
   ·refine aj ⟨rfl,rfl,trivial⟩ ?_
    simp[b9,bo,bj]
   ·rintro⟨k,hk⟩
    simp only
    have hle:=BL L n k
    have hsm:=fun a b=>tG L n hk a b
    have hend:=FX (L:=L) (n:=n) hk
    have hstep: ∀x,x=i6 L n (k+1)->x=(let s:=i6 L n k;if s.2<L.length then(Dp (iF L s.2 n) (iF L (dq L s.2) n) (Int.tmod (L.getD (dq L (dq L s.2)) 0) 3) s.1,dq L (dq L (dq L s.2)))else s):=fun x h=>h
    have hst:=hstep _ rfl
    generalize hu:i6 L n k=u at*
    obtain⟨f,p⟩:=u
    simp only at hle hsm hend hst⊢
    by_cases hk12:k=12
    ·subst hk12
     rw[hend (.inl rfl)]
     (refine ae (bS bY [] [] (by kernel_rfl) (by simp) fun K hK=>?_);simp(disch:=omega) only[kc,ab,Nat.reduceAdd,Hm,ak,ac,Value.oneCell',ah,bf,aB,lg,au,Option.map_none,aK,ol,oh,aw,oo,aQ];apply hK)
     refine af rfl (fun h=>by simp at h<;>omega) (fun _=>bv ?_)
     show bT _ _ _ _
     (refine aa [] fun K hK=>?_;simp(disch:=omega) only[kc,ab];apply hK)
     refine ay ⟨.inr rfl,_,dG.refl _,?_⟩
     refine⟨.one (.sl 14 0 0 n),14,?_,rfl,?_,rfl⟩
     ·simp(disch:=omega) only[bE,Tryz.results6,aP,List.getElem?_cons_succ,List.getElem?_cons_zero]
     ·exact(dY 14 0 _ _ _).symm
    ·by_cases hp:p<L.length
     ·rw[if_pos hp]at hst
      have hi0:=iY (n:=n) L p hn1
      have hj0:=iY (n:=n) L (dq L p) hn1
      have hc0:=FP (L.getD (dq L (dq L p)) 0)
      have l1:=gy hle
      have l2:=gy l1
      (refine ae (bS bY [] [] (by kernel_rfl) (by simp) fun K hK=>?_);simp(disch:=omega) only[kc,ab,Nat.reduceAdd,Hm,ak,ac,Value.oneCell',ah,bA,aB,lg,au,aK,ol,lD,Nat.reduceEqDiff,bH,aA,rm,oh,wL,Nat.add_zero,tA,aw,oo,aR,aQ];apply hK)
      refine af rfl (fun _=>aq ?_) (fun h=>by simp at h<;>omega)
      refine ae (yN 34 (cs:=Ai L p) rfl fun b=>?_)
      refine d9 ?_
      refine f9.weak (aj (tm:=[jk,.raw (.int .i64 (n:Int)),jk,jk,jk,.one (.sl 14 0 0 n),jk,dU b,.raw (.int .i64 (k:Int)),jk,jk,jk,jk,jk,jk,jk,jk,jk,jk,jk,jk,jk,jk,jk,jk,jk,jk,jk,jk,jk,jk,jk,jk,jk,jk,jk,jk,jk,jk,jk,jk,jk,jk,jk,jk,jk,jk,jk,jk,jk,jk,jk,jk,jk,jk,jk,jk,jk,jk,jk,jk,jk,jk,jk,jk,jk,jk,jk,jk,jk,jk,jk,jk,jk,jk,jk,jk,jk,jk,jk,jk,jk,jk,jk,jk,jk,jk,jk,jk,jk,jk,jk,jk,jk,jk,jk,jk,jk,jk,jk,jk,jk,jk,jk,jk,jk,jk,jk,jk,jk,jk,jk,jk,jk,jk,jk,jk,jk,jk,jk,jk,jk,jk,jk,jk,jk,jk,jk,jk,jk,jk,jk,jk,jk,jk,jk,jk,jk,jk,jk,jk,jk,jk,jk,jk]) (l:=[(14,eK 14 n n f)]) ⟨rfl,trivial⟩ (by simp[b9,bo,bj,zF,lL])) ?_
      have b1:=ot b L p n hL hle hn1 (by omega)
      have b2:=ot b L (dq L p) n hL l1 hn1 (by omega)
      have b3:=yJ b L (dq L (dq L p)) hL l2
      generalize iF L p n=i at*
      generalize iF L (dq L p) n=j at*
      generalize dq L (dq L p)=p2 at*
      generalize dq L p2=p3 at*
      refine yS 2 5 b1 b2 [] [] (by kernel_rfl) (by kernel_rfl) (by rfl) (by rfl) (by rfl) (by rfl) (by decide) (by simp) fun K hK=>?_
      simp(disch:=omega) only[kc,dU,Nat.reduceAdd,ab,Hm,ai,aN,aC,List.find?_cons,aD,aX,CallRes.plain,aF,aH,ap,noRefTV,am,aG,aE]
      apply hK
      clear hK K
      refine⟨by simp,?_⟩
      intro K hK
      simp(disch:=omega) only[kc,dU,Nat.reduceAdd,ab,ai,aN,aC,List.find?_cons,aD,aX,CallRes.plain,aF,aH,ap,noRefTV,am,aG,aE]
      apply hK
      clear hK K
      refine f9.weak (aj (tm:=[jk,.raw (.int .i64 (n:Int)),jk,jk,jk,.one (.sl 14 0 0 n),jk,dU b,.raw (.int .i64 (k:Int)),.raw (.int .i64 (i:Int)),.raw (.int .i64 (j:Int)),jk,jk,jk,jk,jk,jk,jk,jk,jk,jk,jk,jk,jk,jk,jk,jk,jk,jk,jk,jk,jk,jk,jk,jk,jk,jk,jk,jk,jk,jk,jk,jk,jk,jk,jk,jk,jk,jk,jk,jk,jk,jk,jk,jk,jk,jk,jk,jk,jk,jk,jk,jk,jk,jk,jk,jk,jk,jk,jk,jk,jk,jk,jk,jk,jk,jk,jk,jk,jk,jk,jk,jk,jk,jk,jk,jk,jk,jk,jk,jk,jk,jk,jk,jk,jk,jk,jk,jk,jk,jk,jk,jk,jk,jk,jk,jk,jk,jk,jk,jk,jk,jk,jk,jk,jk,jk,jk,jk,jk,jk,jk,jk,jk,jk,jk,jk,jk,jk,jk,jk,jk,jk,jk,jk,jk,jk,jk,jk,jk,jk,jk,jk,jk,jk]) (l:=[(14,eK 14 n n f)]) ⟨rfl,trivial⟩ (by simp[b9,bo,bj])) ?_
      (refine mE 1 b3 [] [] (by kernel_rfl) (by rfl) (by rfl) (by simp) fun K hK=>?_;simp(disch:=omega) only[kc,dU,ab,Nat.reduceAdd,Hm,ai,aN,aC,List.find?_cons,aD,aX,CallRes.plain,aF,aH,ap,noRefTV,am,aG,aE,ak,ac,Value.oneCell',ah,bH];apply hK)
      generalize hcc:Int.tmod (L.getD p2 0) 3=c at*
      (refine bI [] [] (by simp) fun K hK=>?_;simp(disch:=omega) only[kc,ab,Nat.reduceAdd,aw,au,aL,ac,Value.oneCell'];apply hK)
      refine oz (G:=mz n) (fun q=>⟨[jk,.raw (.int .i64 (n:Int)),jk,jk,jk,.one (.sl 14 0 0 n),jk,dU b,.raw (.int .i64 (k:Int)),.raw (.int .i64 (i:Int)),.raw (.int .i64 (j:Int)),.raw (.int .i64 c),jk,jk,jk,jk,jk,jk,jk,jk,jk,jk,jk,jk,jk,jk,jk,jk,jk,jk,jk,jk,jk,jk,jk,jk,jk,jk,jk,jk,jk,jk,jk,jk,jk,jk,jk,jk,jk,jk,jk,jk,jk,jk,jk,jk,jk,jk,jk,jk,jk,.raw (.int .i64 (n:Int)),.raw (.int .i64 (q.i:Int)),jk,jk,jk,jk,jk,jk,jk,jk,jk,jk,jk,jk,jk,jk,jk,jk,jk,jk,jk,jk,jk,jk,jk,jk,jk,jk,jk,jk,jk,jk,jk,jk,jk,jk,jk,jk,jk,jk,jk,jk,jk,jk,jk,jk,jk,jk,jk,jk,jk,jk,jk,jk,jk,jk,jk,jk,jk,jk,jk,jk,jk,jk,jk,jk,jk,jk,jk,jk,jk,jk,jk,jk,jk,jk,jk,jk,jk,jk,jk,jk,jk,jk],Hm [(14,eK 14 n n (iO i j c f q.i))]⟩) (fun _=>Ai L p3) (fun q=>n-q.i) ⟨0,by omega⟩ ?_ rfl ?_
      ·rw[Cj]
       refine aj ⟨rfl,trivial⟩ ?_
       simp[b9,bo,bj]
      ·rintro⟨r,hr⟩
       simp only
       by_cases hm:r<n
       ·have g1:=cX (n:=n) (i:=r) 14 n hm
        have g3:=dE (n:=n) n (iO i j c f r) (i:=r) hm
        have g4:(de n (iO i j c f r r))[i]?=some (f r i):=by rw[bK _ hi0,pC]
        have g5:(de n (iO i j c f r r))[j]?=some (f r j):=by rw[bK _ hj0,pC]
        have s1:=hsm r i
        have s2:=hsm r j
        have s3:=Ha hc0.1 hc0.2 s2.1 s2.2
        have s11:=s1.1
        have s12:=s1.2
        have s31:=s3.1
        have Dc:=s3.2
        (refine bI [] [] (by simp) fun K hK=>?_;simp(disch:=omega) only[kc,ab,dU,Hm,ak,ah,bA];apply hK)
        refine dz (bV rfl (fun _=>g9 ?_) (fun h=>by simp at h<;>omega))
        refine dz (d9 ?_)
        (refine bI [] [] (by simp) fun K hK=>?_;simp(disch:=omega) only[kc,ab];apply hK)
        refine d9 ?_
        by_cases hij:i=j
        ·subst hij
         by_cases hc:c<0
         ·(refine bI [] [] (by simp) fun K hK=>?_;simp(disch:=omega) only[kc,ab,Nat.reduceAdd,ak,ah,bA,aB,ac,Value.oneCell',bH,aQ];apply hK)
          refine bV rfl (fun _=>?_) (fun h=>by simp at h<;>omega)
          ((refine mD bY [] [] (by kernel_rfl) (by simp) fun K hK=>?_);simp(disch:=omega) only[kc,ab,Nat.reduceAdd,ag,au,ao,aL,b7,bH,g1,aA,ce,bM,g3,dL,cb,fI,g4,fF,bW,ak,dc,bC,az,df,bJ,cellsOf,Nat.le_refl,isPure,putCells,eG,aS,aT];apply hK)
          show f9 _ _ _ _ _ _ _
          ((refine fH [] [] (by simp) fun K hK=>?_);simp(disch:=omega) only[kc,ab,ak,ac,Value.oneCell',ah,bC];apply hK)
          refine⟨⟨r+1,by omega⟩,by simp only;omega,aj ⟨?_,trivial⟩ ?_,rfl⟩
          ·show _::_=_::_
           rw[da fun a b _ _=>GI (i:=i) (f:=f) (m:=r) hc a b]
          ·simp[b9,bo,bj]
         ·(refine bI [] [] (by simp) fun K hK=>?_;simp(disch:=omega) only[kc,ab,Nat.reduceAdd,ak,ah,bA,aB,ac,Value.oneCell',bH,bf,aQ];apply hK)
          refine bV rfl (fun h=>by simp at h<;>omega) (fun _=>?_)
          (refine bI [] [] (by simp) fun K hK=>?_;simp(disch:=omega) only[kc,ab,Nat.reduceAdd,ak,ah,bA,aB,ac,Value.oneCell',Option.map_none,aQ];apply hK)
          refine bV rfl (fun h=>by simp at h) (fun _=>?_)
          (refine bI [] [] (by simp) fun K hK=>?_;simp(disch:=omega) only[kc,ab,Nat.reduceAdd,ak,ah,bA];apply hK)
          refine bV rfl (fun h=>by simp at h) (fun _=>g9 ?_)
          show f9 _ _ _ _ _ _ _
          ((refine fH [] [] (by simp) fun K hK=>?_);simp(disch:=omega) only[kc,ab,ak,ac,Value.oneCell',ah,bC];apply hK)
          refine⟨⟨r+1,by omega⟩,by simp only;omega,aj ⟨?_,trivial⟩ ?_,rfl⟩
          ·show _::_=_::_
           rw[da fun a b _ _=>D4 (i:=i) (f:=f) (m:=r) hc a b]
          ·simp[b9,bo,bj]
        ·by_cases hc:c=0
         ·subst hc
          have q4:(de n (upd (iO i j 0 f r) r i (f r j) r))[j]?=some (f r j):=by
           rw[bK _ hj0,mw (.inr (Ne.symm hij)),pC]
          have q3:=dE (n:=n) n (upd (iO i j 0 f r) r i (f r j)) (i:=r) hm
          (refine bI [] [] (by simp) fun K hK=>?_;simp(disch:=omega) only[kc,ab,Nat.reduceAdd,ak,ah,bf,aB,ac,Value.oneCell',Option.map_none,aQ];apply hK)
          refine bV rfl (fun h=>by simp at h<;>omega) (fun _=>?_)
          (refine bI [] [] (by simp) fun K hK=>?_;simp(disch:=omega) only[kc,ab,Nat.reduceAdd,ak,ah,bf,Bool.not_false,aB,ac,Value.oneCell',bH,bA,aQ];apply hK)
          refine bV rfl (fun _=>?_) (fun h=>by simp at h<;>omega)
          ((refine mD bY [] [] (by kernel_rfl) (by simp) fun K hK=>?_);simp(disch:=omega) only[kc,ab,Nat.reduceAdd,ag,au,ao,aL,b7,bH,g1,aA,ce,bM,g3,dL,cb,fI,g5,fF,g4,az,df,bJ,cellsOf,Nat.le_refl,isPure,putCells,eG,aS,aT,aJ,cP,q3,q4];apply hK)
          show f9 _ _ _ _ _ _ _
          ((refine fH [] [] (by simp) fun K hK=>?_);simp(disch:=omega) only[kc,ab,ak,ac,Value.oneCell',ah,bC];apply hK)
          refine⟨⟨r+1,by omega⟩,by simp only;omega,aj ⟨?_,trivial⟩ ?_,rfl⟩
          ·show _::_=_::_
           rw[da fun a b _ _=>D5 (f:=f) (m:=r) hij a b]
          ·simp[b9,bo,bj]
         ·(refine bI [] [] (by simp) fun K hK=>?_;simp(disch:=omega) only[kc,ab,Nat.reduceAdd,ak,ah,bf,aB,ac,Value.oneCell',Option.map_none,aQ];apply hK)
          refine bV rfl (fun h=>by simp at h<;>omega) (fun _=>?_)
          (refine bI [] [] (by simp) fun K hK=>?_;simp(disch:=omega) only[kc,ab,Nat.reduceAdd,ak,ah,bf,Bool.not_false,aB,ac,Value.oneCell',bH,aQ];apply hK)
          refine bV rfl (fun h=>by simp at h<;>omega) (fun _=>?_)
          (refine bI [] [] (by simp) fun K hK=>?_;simp(disch:=omega) only[kc,ab,Nat.reduceAdd,ak,ah,bf,Bool.not_false];apply hK)
          refine bV rfl (fun _=>?_) (fun h=>by simp at h<;>omega)
          ((refine mD bY [] [] (by kernel_rfl) (by simp) fun K hK=>?_);simp(disch:=omega) only[kc,ab,Nat.reduceAdd,ag,au,ao,aL,b7,bH,g1,aA,ce,bM,g3,dL,cb,fI,g4,fF,g5,ak,ah,bC,az,df,bJ,cellsOf,Nat.le_refl,isPure,putCells,eG,aS,aT];apply hK)
          show f9 _ _ _ _ _ _ _
          ((refine fH [] [] (by simp) fun K hK=>?_);simp(disch:=omega) only[kc,ab,ak,ac,Value.oneCell',ah,bC];apply hK)
          refine⟨⟨r+1,by omega⟩,by simp only;omega,aj ⟨?_,trivial⟩ ?_,rfl⟩
          ·show _::_=_::_
           rw[da fun a b _ _=>D3 (f:=f) (m:=r) hij hc a b]
          ·simp[b9,bo,bj]
       ·have hrn:r=n:=by omega
        subst hrn
        (refine bI [] [] (by simp) fun K hK=>?_;simp(disch:=omega) only[kc,ab,dU,Hm,ak,ah,bf];apply hK)
        refine dz (bV rfl (fun h=>by simp at h<;>omega) (fun _=>oy ?_))
        have e:eK 14 r r (iO i j c f r)=eK 14 r r (Dp i j c f):=by
         show _::_=_::_
         rw[da fun a b ha _=>D2 ha]
        rw[e]
        refine⟨rfl,?_⟩
        show bT _ _ _ _
        refine bT.weak (aj (tm:=[jk,.raw (.int .i64 (r:Int)),jk,jk,jk,.one (.sl 14 0 0 r),jk,.one (.ptr 34 0 0 0),.raw (.int .i64 (k:Int)),jk,jk,jk,jk,jk,jk,jk,jk,jk,jk,jk,jk,jk,jk,jk,jk,jk,jk,jk,jk,jk,jk,jk,jk,jk,jk,jk,jk,jk,jk,jk,jk,jk,jk,jk,jk,jk,jk,jk,jk,jk,jk,jk,jk,jk,jk,jk,jk,jk,jk,jk,jk,jk,jk,jk,jk,jk,jk,jk,jk,jk,jk,jk,jk,jk,jk,jk,jk,jk,jk,jk,jk,jk,jk,jk,jk,jk,jk,jk,jk,jk,jk,jk,jk,jk,jk,jk,jk,jk,jk,jk,jk,jk,jk,jk,jk,jk,jk,jk,jk,jk,jk,jk,jk,jk,jk,jk,jk,jk,jk,jk,jk,jk,jk,jk,jk,jk,jk,jk,jk,jk,jk,jk,jk,jk,jk,jk,jk,jk,jk,jk,jk,jk,jk,jk,jk]) (l:=[(14,eK 14 r r (Dp i j c f)),(34,Ko L p3)]) ⟨rfl,rfl,trivial⟩ (by simp[b9,bo,bj,I2,xf])) ?_
        ((refine aU [] [] (by simp) fun K hK=>?_);simp(disch:=omega) only[kc,ab,Nat.reduceAdd,Hm,ak,ac,Value.oneCell',ah,bC];apply hK)
        refine⟨⟨k+1,by omega⟩,by simp only;omega,?_⟩
        rw[hst]
        refine aj ⟨rfl,rfl,trivial⟩ ?_
        simp[b9,bo,bj]
     ·rw[hend (.inr hp)]
      (refine ae (bS bY [] [] (by kernel_rfl) (by simp) fun K hK=>?_);simp(disch:=omega) only[kc,ab,Nat.reduceAdd,Hm,ak,ac,Value.oneCell',ah,bA,aB,lg,au,aK,ol,lD,Nat.reduceEqDiff,bH,aA,rm,oh,wL,Nat.add_zero,tA,aw,oo,aR,bf,aQ];apply hK)
      refine af rfl (fun h=>by simp at h<;>omega) (fun _=>bv ?_)
      show bT _ _ _ _
      (refine aa [] fun K hK=>?_;simp(disch:=omega) only[kc,ab];apply hK)
      refine ay ⟨.inr rfl,_,dG.refl _,?_⟩
      refine⟨.one (.sl 14 0 0 n),14,?_,rfl,?_,rfl⟩
      ·simp(disch:=omega) only[bE,Tryz.results6,aP,List.getElem?_cons_succ,List.getElem?_cons_zero]
      ·exact(dY 14 0 _ _ _).symm
section
def oc:AV->Bool
 | .p (.raw _)=>true
 | .p (.sl [])=>true
 | .p _=>false
 |_=>true
def z7:TV->Bool
 | .one x=>oc x
 | .agg cs=>cs.all oc
 | .tup ts=>ts.all fun t=>t.2.all oc
 | .fn _ cs=>cs.all oc
def ri (r:CallRes):Prop:=z7 r.r=true/\ ∀o∈r.fam,∀e∈o.elems,∀x∈e,oc x=true
def Iq (H:OH) (t u:TV):Prop:=(iQ t=true/\u=t)\/ ∃a r off len,t= .one (.sl a r off len)/\vJ H a/\gH H a t=u
def ArgsFz (H:OH):List TV->List TV->Prop
 |[],[]=>True
 |t::ts,u::us=>Iq H t u/\ArgsFz H ts us
 |_,_=>False
theorem ug {H:OH}: ∀{ts us:List TV},ArgsFz H ts us->us.length=ts.length/\ ∀(j:Nat) u,us[j]?=some u-> ∃t,ts[j]?=some t/\Iq H t u
 |[],[],_=>⟨rfl,fun j u h=>by simp at h⟩
 |t::ts,u::us,⟨h1,h2⟩=>by
  obtain⟨g1,g2⟩:=ug h2
  refine⟨by simp[g1],fun j v hv=>?_⟩
  match j,hv with
  |0,hv=>exact⟨t,rfl,by simp at hv;subst hv;exact h1⟩
  |j+1,hv=>exact g2 j v (by simpa using hv)
 |[],_::_,h=>h.elim
 |_::_,[],h=>h.elim
section
variable {P:Program} {s:AS} {a:Act} {w0 w w1:World} {O X:Nat->Prop} {ρ:gm} {H:OH}
theorem pf {Y Y':Nat->Prop} {x:AV} {v:Value} (hs:oc x=true) (h:AV.rel ρ H Y w x v):AV.rel ρ H Y' w x v:=by
 cases x with
 |p x=>
  cases x with
  |raw u=>
   obtain⟨rfl,h1⟩:=dM (ρ:=ρ) (H:=H) h
   exact dy.raw _ h1
  |sl xs=>
   cases xs with
   |nil=>
    have h:dy Y w (.sl []) v:=h
    generalize hx:PV.sl []=x at h
    cases h with
    |raw v h=>cases hx
    |ptr b off cs f hX hb hc hr=>cases hx
    |nil a c=>exact dy.nil _ _
    |sl b off es cap xs f hX hb hes hcap hm hc hr=>
     injection hx with hx
     subst hx
     exact dy.nil _ _
   |cons e xs=>cases hs
  |ptr cs=>cases hs
 |sl a r off len=>exact h
 |ptr a r i j=>exact h
 |junk=>trivial
theorem z8 {Y Y':Nat->Prop} {t:TV} {v:Value} (hs:z7 t=true) (h:t.rel ρ H Y w v):t.rel ρ H Y' w v:=by
 have agg: ∀cs v,cs.all oc=true->dv ρ H Y w cs v->dv ρ H Y' w cs v:=fun cs v hc ⟨vs,g1,g2,g3⟩=>by
  simp only[List.all_eq_true]at hc
  exact⟨vs,g1,g2,fun j x hx=>by obtain⟨u,u1,u2,u3⟩:=g3 j x hx;exact⟨u,u1,u2,pf (hc x (List.mem_of_getElem? hx)) u3⟩⟩
 cases t with
 |one x=>exact pf hs h
 |agg cs=>exact agg cs v hs h
 |fn f cs=>obtain⟨u,h1,h2⟩:=h;exact⟨u,agg cs u hs h1,h2⟩
 |tup ts=>
  simp only[z7,List.all_eq_true]at hs
  obtain⟨vs,g1,g2,g3⟩:=h
  refine⟨vs,g1,g2,fun j c cs hj=>?_⟩
  obtain⟨u,u1,u2⟩:=g3 j c cs hj
  have hall:=hs (c,cs) (List.mem_of_getElem? hj)
  refine⟨u,u1,?_⟩
  rcases u2 with⟨u2,u3⟩|⟨u2,x,rfl,u4⟩
  ·exact .inl ⟨u2,agg _ _ (by simpa only[List.all_eq_true] using hall) u3⟩
  ·exact .inr ⟨u2,_,rfl,pf (hall x (by simp)) u4⟩
theorem x4 {ρ':gm} {H':OH} {Y:Nat->Prop} {t:TV} {v:Value} (hn:iQ t=true) (h:t.rel ρ H Y w v):t.rel ρ' H' (fun _=>False) w v:=by
 refine sM (Y:=fun _=>False) rfl hn ?_ (ρ:=ρ) (H:=H)
 unfold iQ at hn
 split at hn
 ·exact dy.weaken (fun _ _ h=>h.elim) h
 ·rename_i cs
  simp only[List.all_eq_true]at hn
  obtain⟨vs,g1,g2,g3⟩:=h
  refine⟨vs,g1,g2,fun j x hx=>?_⟩
  obtain⟨u,u1,u2,u3⟩:=g3 j x hx
  have:=hn x (List.mem_of_getElem? hx)
  refine⟨u,u1,u2,?_⟩
  cases x<;>first|exact dy.weaken (fun _ _ h=>h.elim) u3|cases this
 ·cases hn
theorem GS {Y:Nat->Prop} (hob: ∀(x r:Nat) (o:OObj),(H x)[r]?=some o->objRel ρ H Y w x r o) {fa r off len:Nat} (hok:vJ H fa) {u:TV} (hu:gH H fa (.one (.sl fa r off len))=u) {v:Value} (h:AV.rel ρ H Y w (.sl fa r off len) v):u.rel (fun _ _=>none) (fun _=>[]) (fun _=>False) w v:=by
 have hpure: ∀x u,isPure x=true->AV.rel ρ H Y w x u->dy (fun _=>False) w (ka x) u:=fun x u hp h=>by
  cases x<;>first|exact dy.weaken (fun _ _ h=>h.elim) h|cases hp
 have hcell: ∀(r:Nat) o,(H fa)[r]?=some o-> ∀e∈o.elems,∀x∈e,∀u,AV.rel ρ H Y w x u->dy (fun _=>False) w (ke H fa x) u:=fun r o ho e he x hx u hu=>by
  rcases hok r o ho e he x hx with hp|⟨r',off,len,o',rfl,ho',hpr⟩
  ·have:=hpure x u hp hu
   cases x<;>first|exact this|cases hp
  ·simp only[ke,ho']
   exact mR (hob fa r' o' ho') ho' (fun e he y hy u hu=>hpure y u (hpr e he y hy) hu) (fun _ _ _ h=>h) hu
 subst hu
 have h':=h
 obtain⟨o,g1,g2,g3⟩:=h
 simp only[gH,fu,if_true,g1]
 exact mR (hob fa r o g1) g1 (hcell r o g1) (fun _ _ _ h=>h) h'
theorem EZ (hrel:ik w0 O X s a w) {o:Oper} {c:Call} {f:FuncId} (ho:o.op= .call c) (hcal:c.callee= .value (.func f)) {args:List TV} {res:CallRes} (hcon:CallC P f args res) (hsafe:ri res) {ts:List TV} {d:Nat}
  (hev:aD s.ev c.args.toList=some ts) (harg:ArgsFz s.H ts args) (hd:res.fam≠[]->s.H d=[]) (hdst:o.dst=some d) {K:Act->World->Prop} {Q:Exit->Act->World->Prop}
  (hK: ∀v w',ik w0 O X (jB s d (aG d res.r) (res.fam.map (dm d))) (a.put o.dst v) w'->K (a.put o.dst v) w'):o.wp P a w K Q:=by
 obtain⟨h1,hsz,ρ,hinv,htm⟩:=hrel
 have htm:di X ρ s a w:=htm
 obtain⟨e1,e2⟩:=fi hev
 obtain⟨q1,q2⟩:=ug harg
 have hXlt: ∀j,Xo X ρ s.H j->j<w.heap.size:=fun b hb=>by
  rcases hb with hb|⟨x,y,o',n,g1,g2⟩
  ·exact hinv.bar b hb
  ·exact dB (hinv.objs x y o' g1) g2
 have hrun:=pe (w:=w) ho hcal (e:=a.eval) rfl hcon.1
 unfold Oper.wp
 rw[hrun]
 simp only[Oper.upon]
 have hsize:c.args.size=args.length:=by rw[q1];simpa using e1.symm
 refine(hcon.2 (fun _=>False) w (c.args.map a.eval) (fun j hj=>hj.elim) (by simp[hsize]) fun j u hu=>?_).mono ?_
 ·obtain⟨t,ht,hat⟩:=q2 j u hu
  obtain⟨y,hy,hyt⟩:=e2 j t ht
  refine⟨a.eval y,?_,?_⟩
  ·rw[Array.getElem?_map]
   have:c.args[j]?=some y:=by simpa using hy
   rw[this];rfl
  ·have hr:=ew htm y t hyt
   rcases hat with⟨hp,rfl⟩|⟨fa,r,off,len,rfl,hok,hfz⟩
   ·exact x4 hp hr
   ·exact GS hinv.objs hok hfz hr
 ·rintro e w1 ⟨v,rfl,ρc,hi,hr⟩
  show K (a.put o.dst v) w1
  have hfam: ∀(x r:Nat) o,(famH 0 res.fam x)[r]?=some o->o∈res.fam:=fun x r o ho=>by
   unfold famH at ho
   split at ho
   ·exact List.mem_of_getElem? ho
   ·simp at ho
  have hob': ∀{Y Y':Nat->Prop} (x r:Nat) o,o∈res.fam->objRel ρc (famH 0 res.fam) Y w1 x r o->objRel ρc (famH 0 res.fam) Y' w1 x r o:=fun{Y Y'} x r o hmem hob=>by
   obtain⟨z1,z2,z3⟩:=hob
   refine⟨z1,z2,?_⟩
   cases hr0:ρc x r with
   |none=>rw[hr0]at z3;exact z3
   |some bc=>
    obtain⟨b,n⟩:=bc
    rw[hr0]at z3
    obtain⟨cells,p1,p2,p3,p4,p5⟩:=z3
    refine⟨cells,p1,p2,p3,p4,fun i e j z he hz=>?_⟩
    obtain⟨u,u1,u2,u3⟩:=p5 i e j z he hz
    exact⟨u,u1,u2,pf (hsafe.2 o hmem e (List.mem_of_getElem? he) z (List.mem_of_getElem? hz)) u3⟩
  by_cases hpl:res.plain=true
  ·rw[hdst]
   have:=oE (P:=P) (it:=(⟨0,f,args,res⟩:eQ P)) (d:=d) (v:=v) (w1:=w1) (ρc:=ρc) h1 hsz hinv htm rfl rfl (fun h:res.fam.map (dm d)≠[]=>hd (by simpa using h)) (by rw[if_pos hpl];exact hi) (by rw[if_pos hpl];exact hr)
   rw[<- hdst]at this⊢
   exact hK v w1 this
  ·have hi':i7 w (fun _=>False) (Xo X ρ s.H) (famH 0 res.fam) ρc w1:=
    ⟨hi.keep,fun x r o ho=>hob' x r o (hfam x r o ho) (hi.objs x r o ho),hi.inj,fun x r o b c ho hb=>by
     have:=hi.old x r o b c ho hb
     refine⟨this.1,fun hX=>?_⟩
     rcases this.1 with h|h
     ·have:=hXlt b hX;omega
     ·exact h,fun b hb=>Nat.lt_of_lt_of_le (hXlt b hb) hi.keep.size,hi.self⟩
   have:=oE (P:=P) (it:=(⟨0,f,args,res⟩:eQ P)) (d:=d) (v:=v) (w1:=w1) (ρc:=ρc) h1 hsz hinv htm rfl rfl (fun h:res.fam.map (dm d)≠[]=>hd (by simpa using h)) (by rw[if_neg hpl];exact hi') (by rw[if_neg hpl];exact z8 hsafe.1 hr)
   rw[hdst]at hK⊢
   exact hK v w1 this
def Jf (ops:Array Oper) (m:Nat) (res:CallRes) (s:AS):AS:=match cwD ops m with
 |some d=>jB s d (aG d res.r) (res.fam.map (dm d))
 |none=>s
structure JU (ops:Array Oper) (m:Nat) (f:FuncId) (args:List TV) (res:CallRes) (s:AS):Prop where
 ts: ∃ts,cwTs ops m s=some (f,ts)/\ArgsFz s.H ts args
 dst: ∃d,cwD ops m=some d/\(res.fam≠[]->s.H d=[])
theorem GH {ops:Array Oper} {m:Nat} {res:CallRes} {s:AS}:(Jf ops m res s).tmps.length=s.tmps.length:=by
 unfold Jf
 split
 ·unfold jB
  split
  ·rw[fp]
  ·rw[fp]
 ·rfl
theorem BS (m:Nat) {f:FuncId} {args:List TV} {res:CallRes} (hcon:CallC P f args res) (hsafe:ri res) (items:List (ar P)) (ow:List Nat) {id:Nat} {ops:Array Oper} {Q:Exit->AS->Prop} (hl:s.tmps.length<=1000000) (hm:m<ops.toList.length)
  (h:eE P (items.map ar.a) ow (dC ops (ops.toList.take m) 0) (some s) (fun s1=>JU ops m f args res s1/\s1.tmps.length<=1000000/\eE P (items.map ar.a) ow (dC ops (ops.toList.drop (m+1)) (m+1)) (some (Jf ops m res s1)) (Q .normal))):bT P (.region id ops false) Q s:=fun w0 O X a w r0=>by
 obtain⟨s1,h1,⟨⟨ts0,q1,q2⟩,⟨d,qd,qe⟩⟩,hl1,h2⟩:=dF P (items.map ar.a) ow ops _ 0 s _ hl h
 obtain⟨s',h3,h4⟩:=dF P (items.map ar.a) ow ops _ (m+1) _ _ (by rw[GH];exact hl1) h2
 obtain⟨o,ho⟩: ∃o,ops[m]?=some o:=⟨ops[m],by simp at hm;simp[hm]⟩
 have hdst:o.dst=some d:=by
  unfold cwD at qd
  rw[ho]at qd
  exact qd
 unfold cwTs at q1
 rw[ho]at q1
 simp only at q1
 split at q1
 ·rename_i c hg hop1
  split at q1
  ·rename_i f' hcal
   split at q1
   ·rename_i ts hts
    injection q1 with q1
    injection q1 with q1 q3
    subst q1 q3
    refine wp_region ?_
    have hsz:ops.size=(ops.toList.take m).length+(1+(ops.toList.drop (m+1)).length):=by simp at hm⊢;omega
    rw[hsz,List.range_eq_range',<- List.range'_append_1,Nat.zero_add]
    have hml:(ops.toList.take m).length=m:=by rw[List.length_take];omega
    refine mf (ar.ok items) (ops.toList.take m) 0 s s1 a w (fun j o hj=>?_) h1 r0 fun a' w' r'=>?_
    ·rw[List.getElem?_take]at hj
     split at hj
     ·simpa using hj
     ·cases hj
    ·rw[hml,Nat.add_comm 1,List.range'_succ]
     simp only[wpOps,ho]
     rw[if_pos (by simp[Region.wanted,hg])]
     refine .inl (EZ r' hop1 hcal hcon hsafe hts q2 qe hdst fun v w1 hr1=>?_)
     refine iy (ar.ok items) (Q:=fun e a' w'=> ∃s',Q e s'/\ik w0 O X s' a' w') (ops.toList.drop (m+1)) (m+1) _ s' _ _ (fun j o hj=>?_) h3 ?_ (fun a' w' hr=>⟨s',h4,hr⟩)
     ·rw[List.getElem?_drop]at hj
      simpa using hj
     ·unfold Jf
      rw[qd]
      exact hr1
   ·cases q1
  ·cases q1
 ·cases q1
theorem kL (m:Nat) {f:FuncId} {args:List TV} {res:CallRes} (hcon:CallC P f args res) (hsafe:ri res) (items:List (ar P)) (ow:List Nat) {id:Nat} {ops:Array Oper} {y:Code} {Q:Exit->AS->Prop} (hl:s.tmps.length<=1000000) (hm:m<ops.toList.length)
  (h: ∀K:AS->Prop,(∀s1,(JU ops m f args res s1/\s1.tmps.length<=1000000/\ ∀K:AS->Prop,(∀s',bT P y Q s'->K s')->eE P (items.map ar.a) ow (dC ops (ops.toList.drop (m+1)) (m+1)) (some (Jf ops m res s1)) K)->K s1)->eE P (items.map ar.a) ow (dC ops (ops.toList.take m) 0) (some s) K):bT P (.seq (.region id ops false) y) Q s:=
 ae (BS m hcon hsafe items ow hl hm (h _ fun s1 ⟨q1,q2,q3⟩=>⟨q1,q2,q3 _ fun _ h=>h⟩))
end
end
theorem rj (k c:Nat) (F:Nat->Nat->Int) (b:Bool):ri ⟨eK 0 k c F,jE k b⟩:=by
 refine⟨rfl,fun o ho e he x hx=>?_⟩
 rcases List.mem_cons.1 ho with rfl|ho
 ·simp only[gY,List.mem_mapIdx]at he
  obtain⟨i,_,rfl⟩:=he
  simp at hx
  subst hx
  rfl
 ·obtain⟨r,_,rfl⟩:=List.mem_map.1 ho
  simp only[rh,lc,List.mem_map]at he
  obtain⟨z,_,rfl⟩:=he
  simp[fI]at hx
  subst hx
  rfl
theorem vz {ops:Array Oper} {m d k c:Nat} {F:Nat->Nat->Int} {b:Bool} {s:AS} (hd:cwD ops m=some d):Jf ops m ⟨eK 0 k c F,jE k b⟩ s=AS.put ⟨s.tmps,aJ s.H d (eK d k c F)⟩ (some d) (.tup [(false,[.sl d 0 0 k]),(false,[.p (.raw (.bool b))])]):=by
 unfold Jf
 rw[hd]
 simp only[dY]
 rfl
theorem IW {u:Nat->Nat->Int} {c:Int} (h: ∀i j,pr (u i j)) (hc:pr c) (a b:Nat): ∀i j,pr (upd u a b c i j):=fun i j=>by
 rcases mX u a b c i j with e|e
 ·rw[e];exact hc
 ·rw[e];exact h i j
theorem qP (dim kind:Nat) (L B l:List Int) (h t:List (List Int)) (c:Int) (hL:I8 L) (hdim:dim<=255) (hkind:kind<=255) (hl8:I8 l) (hh:MI h) (ht:MI t) (hc:pr c):
  CallC Tryz.prog 4 [tL dim kind L B,Dq l,ck h,ck t,.raw (.int .i64 c)] ⟨[],.raw (.bool true)⟩:=by
 have cA:=Gv
 by_cases h1:20<t.length
 ·refine ax Tryz.func4 rfl (by kernel_rfl) ?_;rw[Tryz.ntmps4]
  (refine aa [] fun K hK=>?_;simp(disch:=omega) only[kc,ab,tL,Dq,ck,Nat.reduceAdd,List.replicate,cf,aN,aC,cellsOf,isPure,bH,ac,Value.oneCell'];apply hK)
  (refine ae (aa [] fun K hK=>?_);simp(disch:=omega) only[kc,ab,Nat.reduceAdd,aw,au,aL,aR,ak,ac,Value.oneCell',ah,bA,aB,reduceCtorEq,Option.map_none,aQ];apply hK)
  refine af rfl (fun _=>?_) (fun h=>by simp at h<;>omega)
  (refine aa [⟨0,_,_,_,cA⟩] fun K hK=>?_;simp(disch:=omega) only[kc,ar.a,ab,ai,aN,aC,List.find?_cons,aD,CallRes.plain,aF,aH,noRefTV,am,aG,aE];apply hK)
  (refine ay ⟨.inr rfl,aO rfl ?_ rfl⟩;simp(disch:=omega) only[bE,Tryz.results4,aP,List.getElem?_cons_succ,List.getElem?_cons_zero])
 by_cases h2:20<h.length
 ·refine ax Tryz.func4 rfl (by kernel_rfl) ?_;rw[Tryz.ntmps4]
  (refine aa [] fun K hK=>?_;simp(disch:=omega) only[kc,ab,tL,Dq,ck,Nat.reduceAdd,List.replicate,cf,aN,aC,cellsOf,isPure,bH,ac,Value.oneCell'];apply hK)
  (refine ae (aa [] fun K hK=>?_);simp(disch:=omega) only[kc,ab,Nat.reduceAdd,aw,au,aL,aR,ak,ac,Value.oneCell',ah,bf,aB,bH,bA,aQ];apply hK)
  refine af rfl (fun _=>?_) (fun h=>by simp at h<;>omega)
  (refine aa [⟨0,_,_,_,cA⟩] fun K hK=>?_;simp(disch:=omega) only[kc,ar.a,ab,ai,aN,aC,List.find?_cons,aD,CallRes.plain,aF,aH,noRefTV,am,aG,aE];apply hK)
  (refine ay ⟨.inr rfl,aO rfl ?_ rfl⟩;simp(disch:=omega) only[bE,Tryz.results4,aP,List.getElem?_cons_succ,List.getElem?_cons_zero])
 obtain⟨n,hn⟩: ∃n,n=1+dim%4:=⟨_,rfl⟩
 have hn1:1<=n:=by omega
 have hn4:n<=4:=by have:=Nat.mod_lt dim (show 0<4 by omega);omega
 obtain⟨f,hr,cF⟩:=IQ dim kind L B 4 n hL hdim hkind (by omega) (by omega) hn
 rw[show((4:Nat):Int)=4 from rfl]at cF
 clear hn
 have hM:=IV hn1 (by omega) hr
 have hml:=bQ n n f
 generalize cd n n f=M at*
 have cU:=Jv l n hl8 hn1 (by omega)
 have hu: ∀i j,pr (Ao l n i j):=fun i j=>by have:=Ap l n i j;unfold pr;omega
 generalize Ao l n=u at*
 have c1:=lh M (cd n n u) (ry hu)
 have c2:=li M (cd n n u) hM (ry hu)
 obtain⟨u2,hu2⟩: ∃u2,u2=if 1<n then upd u 0 1 c else u:=⟨_,rfl⟩
 have hu2I: ∀i j,pr (u2 i j):=by
  rw[hu2]
  split
  ·exact IW hu hc 0 1
  ·exact hu
 have c3:=lh M (cd n n u2) (ry hu2I)
 have c4:=li M (cd n n u2) hM (ry hu2I)
 have c5:=lh h t ht
 have c6:=li h t hh ht
 obtain⟨k1,b1,F1,e1,hk1⟩:=og M (cd n n u)
 obtain⟨k2,b2,F2,e2,hk2⟩:=og M (cd n n u2)
 obtain⟨k3,b3,F3,e3,hk3⟩:=og h t
 rw[e1]at c1 c2
 rw[e2]at c3 c4
 rw[e3]at c5 c6
 have s1:=Aa (cd k1 k1 F1) (cd k1 k1 F1)
 have s2:=Aa (cd k2 k2 F2) (cd k2 k2 F2)
 have s3:=Aa (cd k3 k3 F3) (cd k3 k3 F3)
 rw[decide_eq_true rfl]at s1 s2 s3
 clear e1 e2 e3 hL hl8 hr hM hu hu2I hh ht hdim hkind
 refine ax Tryz.func4 rfl (by kernel_rfl) ?_;rw[Tryz.ntmps4]
 (refine aa [] fun K hK=>?_;simp(disch:=omega) only[kc,ab,tL,Dq,ck,Nat.reduceAdd,List.replicate,cf,aN,aC,cellsOf,isPure,bH,ac,Value.oneCell'];apply hK)
 (refine ae (aa [] fun K hK=>?_);simp(disch:=omega) only[kc,ab,Nat.reduceAdd,aw,au,aL,aR,ak,ac,Value.oneCell',ah,bf,aB,bH,aQ];apply hK)
 refine af rfl (fun h=>by simp at h<;>omega) (fun _=>aq ?_)
 show bT _ _ _ _
 (refine aa [⟨1,_,_,_,cF⟩] fun K hK=>?_;simp(disch:=omega) only[kc,tL,ck,ar.a,ab,Nat.reduceAdd,au,aJ,aA,BI,yv,Nat.le_refl,ai,aN,aC,List.find?_cons,aD,ac,Value.oneCell',aX,CallRes.plain,aF,aH,ap,isPure,noRefTV,am,aG,aE];apply hK)
 (refine aa [⟨3,_,_,_,cU⟩] fun K hK=>?_;simp(disch:=omega) only[kc,Dq,ar.a,ab,Nat.reduceAdd,aw,au,aL,aR,hml,ai,aN,aC,List.find?_cons,aD,aX,CallRes.plain,List.isEmpty_cons,aF,aH,ap,Bool.not_false,noRefTV,am,Bool.or_false,aG,aE,dm,aJ,Nat.reduceEqDiff];apply hK)
 refine bT.weak (aj (tm:=[jk,jk,ck h,ck t,.raw (.int .i64 c),jk,jk,jk,jk,jk,jk,ck M,.one (.sl 39 0 0 n),jk,jk,jk,jk,jk,jk,jk,jk,jk,jk,jk,jk,jk,jk,jk,jk,jk,jk,jk,jk,jk,jk,jk,jk,jk,jk,jk,jk,jk,jk,jk,jk,jk,jk,jk,jk,jk,jk,jk,jk,jk,jk,jk,jk,jk,jk,jk,jk,jk,jk,jk,jk,jk,jk,jk,jk,jk,jk,jk,jk,jk,jk,jk,jk,jk,jk,jk,jk,jk,jk,jk,jk,jk,jk,jk,jk,jk,jk,jk,jk,jk,jk,jk,jk,jk,jk,jk,jk,jk,jk,jk,jk,jk,jk,jk,jk,jk,jk,jk,jk,jk,jk]) (l:=[(39,eK 39 n n u)]) ⟨dY 0 39 _ _ _,trivial⟩ (by simp[b9,bo,bj])) ?_
 -- a, ok
 refine kL 2 c1 (rj _ _ _ _) [] [] (by simp) (by decide) fun K hK=>?_
 simp(disch:=omega) only[kc,ab,ck,Hm]
 apply hK
 clear hK K
 refine⟨⟨⟨_,rfl,.inl ⟨rfl,rfl⟩,.inr ⟨39,0,0,n,rfl,dK (d:=39) (n:=n) (c:=n) (f:=u) rfl,jZ (d:=39) (n:=n) (c:=n) (f:=u) rfl⟩,trivial⟩,⟨43,rfl,fun _=>rfl⟩⟩,by simp,?_⟩
 intro K hK
 rw[vz (d:=43) rfl]
 simp(disch:=omega) only[kc,Nat.reduceAdd,ab,aV,ak]
 apply hK
 clear hK K
 refine bT.weak (aj (tm:=[jk,jk,ck h,ck t,.raw (.int .i64 c),jk,jk,jk,jk,jk,jk,ck M,.one (.sl 39 0 0 n),.one (.sl 43 0 0 k1),.raw (.bool b1),jk,jk,jk,jk,jk,jk,jk,jk,jk,jk,jk,jk,jk,jk,jk,jk,jk,jk,jk,jk,jk,jk,jk,jk,jk,jk,jk,jk,jk,jk,jk,jk,jk,jk,jk,jk,jk,jk,jk,jk,jk,jk,jk,jk,jk,jk,jk,jk,jk,jk,jk,jk,jk,jk,jk,jk,jk,jk,jk,jk,jk,jk,jk,jk,jk,jk,jk,jk,jk,jk,jk,jk,jk,jk,jk,jk,jk,jk,jk,jk,jk,jk,jk,jk,jk,jk,jk,jk,jk,jk,jk,jk,jk,jk,jk,jk,jk,jk,jk,jk]) (l:=[(39,eK 39 n n u),(43,eK 43 k1 k1 F1)]) ⟨rfl,rfl,trivial⟩ (by simp[b9,bo,bj])) ?_
 refine bT.weak ((cQ 43 (dK (d:=43) (n:=k1) (c:=k1) (f:=F1) rfl)).trans (aj (tm:=[jk,jk,ck h,ck t,.raw (.int .i64 c),jk,jk,jk,jk,jk,jk,ck M,.one (.sl 39 0 0 n),ck (cd k1 k1 F1),.raw (.bool b1),jk,jk,jk,jk,jk,jk,jk,jk,jk,jk,jk,jk,jk,jk,jk,jk,jk,jk,jk,jk,jk,jk,jk,jk,jk,jk,jk,jk,jk,jk,jk,jk,jk,jk,jk,jk,jk,jk,jk,jk,jk,jk,jk,jk,jk,jk,jk,jk,jk,jk,jk,jk,jk,jk,jk,jk,jk,jk,jk,jk,jk,jk,jk,jk,jk,jk,jk,jk,jk,jk,jk,jk,jk,jk,jk,jk,jk,jk,jk,jk,jk,jk,jk,jk,jk,jk,jk,jk,jk,jk,jk,jk,jk,jk,jk,jk,jk,jk,jk,jk]) (l:=[(39,eK 39 n n u)]) ⟨rfl,trivial⟩ (by
  simp[b9,bo,bj]
  (repeat' apply And.intro)<;>first|rfl|exact(jZ (H:=Hm [(39,eK 39 n n u),(43,eK 43 k1 k1 F1)]) (d:=43) (n:=k1) (c:=k1) (f:=F1) rfl).symm))) ?_
 -- b, is
 refine kL 2 c2 (rj _ _ _ _) [] [] (by simp) (by decide) fun K hK=>?_
 simp(disch:=omega) only[kc,ab,ck,Hm]
 apply hK
 clear hK K
 refine⟨⟨⟨_,rfl,.inl ⟨rfl,rfl⟩,.inr ⟨39,0,0,n,rfl,dK (d:=39) (n:=n) (c:=n) (f:=u) rfl,jZ (d:=39) (n:=n) (c:=n) (f:=u) rfl⟩,trivial⟩,⟨49,rfl,fun _=>rfl⟩⟩,by simp,?_⟩
 intro K hK
 rw[vz (d:=49) rfl]
 simp(disch:=omega) only[kc,Nat.reduceAdd,ab,aV,ak]
 apply hK
 clear hK K
 refine bT.weak (aj (tm:=[jk,jk,ck h,ck t,.raw (.int .i64 c),jk,jk,jk,jk,jk,jk,ck M,.one (.sl 39 0 0 n),ck (cd k1 k1 F1),.raw (.bool b1),.one (.sl 49 0 0 k1),.raw (.bool b1),jk,jk,jk,jk,jk,jk,jk,jk,jk,jk,jk,jk,jk,jk,jk,jk,jk,jk,jk,jk,jk,jk,jk,jk,jk,jk,jk,jk,jk,jk,jk,jk,jk,jk,jk,jk,jk,jk,jk,jk,jk,jk,jk,jk,jk,jk,jk,jk,jk,jk,jk,jk,jk,jk,jk,jk,jk,jk,jk,jk,jk,jk,jk,jk,jk,jk,jk,jk,jk,jk,jk,jk,jk,jk,jk,jk,jk,jk,jk,jk,jk,jk,jk,jk,jk,jk,jk,jk,jk,jk,jk,jk,jk,jk,jk,jk,jk,jk]) (l:=[(39,eK 39 n n u),(49,eK 49 k1 k1 F1)]) ⟨rfl,rfl,trivial⟩ (by simp[b9,bo,bj])) ?_
 refine bT.weak ((cQ 49 (dK (d:=49) (n:=k1) (c:=k1) (f:=F1) rfl)).trans (aj (tm:=[jk,jk,ck h,ck t,.raw (.int .i64 c),jk,jk,jk,jk,jk,jk,ck M,.one (.sl 39 0 0 n),ck (cd k1 k1 F1),.raw (.bool b1),ck (cd k1 k1 F1),.raw (.bool b1),jk,jk,jk,jk,jk,jk,jk,jk,jk,jk,jk,jk,jk,jk,jk,jk,jk,jk,jk,jk,jk,jk,jk,jk,jk,jk,jk,jk,jk,jk,jk,jk,jk,jk,jk,jk,jk,jk,jk,jk,jk,jk,jk,jk,jk,jk,jk,jk,jk,jk,jk,jk,jk,jk,jk,jk,jk,jk,jk,jk,jk,jk,jk,jk,jk,jk,jk,jk,jk,jk,jk,jk,jk,jk,jk,jk,jk,jk,jk,jk,jk,jk,jk,jk,jk,jk,jk,jk,jk,jk,jk,jk,jk,jk,jk,jk,jk,jk]) (l:=[(39,eK 39 n n u)]) ⟨rfl,trivial⟩ (by
  simp[b9,bo,bj]
  (repeat' apply And.intro)<;>first|rfl|exact(jZ (H:=Hm [(39,eK 39 n n u),(49,eK 49 k1 k1 F1)]) (d:=49) (n:=k1) (c:=k1) (f:=F1) rfl).symm))) ?_
 generalize cd k1 k1 F1=R1 at*
 (refine ae (aa [] fun K hK=>?_);simp(disch:=omega) only[kc,ab,Nat.reduceAdd,ck,Hm,aw,au,aL,aR,hml,ak,ac,Value.oneCell',ah];apply hK)
 refine iV (S:=⟨[jk,jk,ck h,ck t,jk,jk,jk,jk,jk,jk,jk,ck M,.one (.sl 39 0 0 n),ck R1,.raw (.bool b1),ck R1,.raw (.bool b1),jk,jk,jk,jk,jk,jk,jk,jk,jk,jk,jk,jk,jk,jk,jk,jk,jk,jk,jk,jk,jk,jk,jk,jk,jk,jk,jk,jk,jk,jk,jk,jk,jk,jk,jk,jk,jk,jk,jk,jk,jk,jk,jk,jk,jk,jk,jk,jk,jk,jk,jk,jk,jk,jk,jk,jk,jk,jk,jk,jk,jk,jk,jk,jk,jk,jk,jk,jk,jk,jk,jk,jk,jk,jk,jk,jk,jk,jk,jk,jk,jk,jk,jk,jk,jk,jk,jk,jk,jk,jk,jk,jk,jk,jk,jk,jk,jk,jk],Hm [(39,eK 39 n n u2)]⟩) ?_ ?_
 ·by_cases hn2:1<n
  ·rw[if_pos hn2]at hu2
   have g1:=cX (n:=n) (i:=0) 39 n (by omega)
   have g3:=dE (n:=n) n u (i:=0) (by omega)
   have g4:=bK (m:=n) (u 0) (j:=1) (by omega)
   refine af rfl (fun _=>?_) (fun h=>by simp at h<;>omega)
   ((refine aU [] [] (by simp) fun K hK=>?_);simp(disch:=omega) only[kc,ab,Nat.reduceAdd,bA,ag,au,ac,Value.oneCell',ao,Int.reduceToNat,aL,b7,Nat.add_zero,bH,g1,aA,ce,bM,g3,dL,az,df,bJ,cb,fI,g4,cellsOf,Nat.le_refl,isPure,putCells,eG,aS,aT];apply hK)
   rw[hu2]
   refine aj ⟨rfl,trivial⟩ ?_
   simp[b9,bo,bj]
  ·rw[if_neg hn2]at hu2
   rw[hu2]
   refine af rfl (fun h=>by simp at h<;>omega) (fun _=>aq ?_)
   show dG _ _
   refine aj ⟨rfl,trivial⟩ ?_
   simp[b9,bo,bj]
 clear hu2 c1 c2 cF cU
 -- d, fine
 refine kL 2 c3 (rj _ _ _ _) [] [] (by simp) (by decide) fun K hK=>?_
 simp(disch:=omega) only[kc,ab,ck,Hm]
 apply hK
 clear hK K
 refine⟨⟨⟨_,rfl,.inl ⟨rfl,rfl⟩,.inr ⟨39,0,0,n,rfl,dK (d:=39) (n:=n) (c:=n) (f:=u2) rfl,jZ (d:=39) (n:=n) (c:=n) (f:=u2) rfl⟩,trivial⟩,⟨63,rfl,fun _=>rfl⟩⟩,by simp,?_⟩
 intro K hK
 rw[vz (d:=63) rfl]
 simp(disch:=omega) only[kc,Nat.reduceAdd,ab,aV,ak]
 apply hK
 clear hK K
 refine bT.weak (aj (tm:=[jk,jk,ck h,ck t,jk,jk,jk,jk,jk,jk,jk,ck M,.one (.sl 39 0 0 n),ck R1,.raw (.bool b1),ck R1,.raw (.bool b1),.one (.sl 63 0 0 k2),.raw (.bool b2),jk,jk,jk,jk,jk,jk,jk,jk,jk,jk,jk,jk,jk,jk,jk,jk,jk,jk,jk,jk,jk,jk,jk,jk,jk,jk,jk,jk,jk,jk,jk,jk,jk,jk,jk,jk,jk,jk,jk,jk,jk,jk,jk,jk,jk,jk,jk,jk,jk,jk,jk,jk,jk,jk,jk,jk,jk,jk,jk,jk,jk,jk,jk,jk,jk,jk,jk,jk,jk,jk,jk,jk,jk,jk,jk,jk,jk,jk,jk,jk,jk,jk,jk,jk,jk,jk,jk,jk,jk,jk,jk,jk,jk,jk,jk,jk]) (l:=[(39,eK 39 n n u2),(63,eK 63 k2 k2 F2)]) ⟨rfl,rfl,trivial⟩ (by simp[b9,bo,bj])) ?_
 refine bT.weak ((cQ 63 (dK (d:=63) (n:=k2) (c:=k2) (f:=F2) rfl)).trans (aj (tm:=[jk,jk,ck h,ck t,jk,jk,jk,jk,jk,jk,jk,ck M,.one (.sl 39 0 0 n),ck R1,.raw (.bool b1),ck R1,.raw (.bool b1),ck (cd k2 k2 F2),.raw (.bool b2),jk,jk,jk,jk,jk,jk,jk,jk,jk,jk,jk,jk,jk,jk,jk,jk,jk,jk,jk,jk,jk,jk,jk,jk,jk,jk,jk,jk,jk,jk,jk,jk,jk,jk,jk,jk,jk,jk,jk,jk,jk,jk,jk,jk,jk,jk,jk,jk,jk,jk,jk,jk,jk,jk,jk,jk,jk,jk,jk,jk,jk,jk,jk,jk,jk,jk,jk,jk,jk,jk,jk,jk,jk,jk,jk,jk,jk,jk,jk,jk,jk,jk,jk,jk,jk,jk,jk,jk,jk,jk,jk,jk,jk,jk,jk,jk]) (l:=[(39,eK 39 n n u2)]) ⟨rfl,trivial⟩ (by
  simp[b9,bo,bj]
  (repeat' apply And.intro)<;>first|rfl|exact(jZ (H:=Hm [(39,eK 39 n n u2),(63,eK 63 k2 k2 F2)]) (d:=63) (n:=k2) (c:=k2) (f:=F2) rfl).symm))) ?_
 -- e, good
 refine kL 2 c4 (rj _ _ _ _) [] [] (by simp) (by decide) fun K hK=>?_
 simp(disch:=omega) only[kc,ab,ck,Hm]
 apply hK
 clear hK K
 refine⟨⟨⟨_,rfl,.inl ⟨rfl,rfl⟩,.inr ⟨39,0,0,n,rfl,dK (d:=39) (n:=n) (c:=n) (f:=u2) rfl,jZ (d:=39) (n:=n) (c:=n) (f:=u2) rfl⟩,trivial⟩,⟨69,rfl,fun _=>rfl⟩⟩,by simp,?_⟩
 intro K hK
 rw[vz (d:=69) rfl]
 simp(disch:=omega) only[kc,Nat.reduceAdd,ab,aV,ak]
 apply hK
 clear hK K
 refine bT.weak (aj (tm:=[jk,jk,ck h,ck t,jk,jk,jk,jk,jk,jk,jk,jk,jk,ck R1,.raw (.bool b1),ck R1,.raw (.bool b1),ck (cd k2 k2 F2),.raw (.bool b2),.one (.sl 69 0 0 k2),.raw (.bool b2),jk,jk,jk,jk,jk,jk,jk,jk,jk,jk,jk,jk,jk,jk,jk,jk,jk,jk,jk,jk,jk,jk,jk,jk,jk,jk,jk,jk,jk,jk,jk,jk,jk,jk,jk,jk,jk,jk,jk,jk,jk,jk,jk,jk,jk,jk,jk,jk,jk,jk,jk,jk,jk,jk,jk,jk,jk,jk,jk,jk,jk,jk,jk,jk,jk,jk,jk,jk,jk,jk,jk,jk,jk,jk,jk,jk,jk,jk,jk,jk,jk,jk,jk,jk,jk,jk,jk,jk,jk,jk,jk,jk,jk,jk]) (l:=[(69,eK 69 k2 k2 F2)]) ⟨rfl,trivial⟩ (by simp[b9,bo,bj])) ?_
 refine bT.weak ((cQ 69 (dK (d:=69) (n:=k2) (c:=k2) (f:=F2) rfl)).trans (aj (tm:=[jk,jk,ck h,ck t,jk,jk,jk,jk,jk,jk,jk,jk,jk,ck R1,.raw (.bool b1),ck R1,.raw (.bool b1),ck (cd k2 k2 F2),.raw (.bool b2),ck (cd k2 k2 F2),.raw (.bool b2),jk,jk,jk,jk,jk,jk,jk,jk,jk,jk,jk,jk,jk,jk,jk,jk,jk,jk,jk,jk,jk,jk,jk,jk,jk,jk,jk,jk,jk,jk,jk,jk,jk,jk,jk,jk,jk,jk,jk,jk,jk,jk,jk,jk,jk,jk,jk,jk,jk,jk,jk,jk,jk,jk,jk,jk,jk,jk,jk,jk,jk,jk,jk,jk,jk,jk,jk,jk,jk,jk,jk,jk,jk,jk,jk,jk,jk,jk,jk,jk,jk,jk,jk,jk,jk,jk,jk,jk,jk,jk,jk,jk,jk,jk]) (l:=[]) trivial (by
  simp[b9,bo,bj]
  (repeat' apply And.intro)<;>first|rfl|exact(jZ (H:=Hm [(69,eK 69 k2 k2 F2)]) (d:=69) (n:=k2) (c:=k2) (f:=F2) rfl).symm))) ?_
 generalize cd k2 k2 F2=R2 at*
 clear c3 c4
 -- p, some
 (refine aa [⟨2,_,_,_,c5⟩] fun K hK=>?_;simp(disch:=omega) only[kc,ck,jE,ar.a,ab,Nat.reduceAdd,Hm,ai,aN,aC,List.find?_cons,aD,aX,CallRes.plain,List.isEmpty_cons,aF,aH,ap,Bool.not_false,noRefTV,am,Bool.or_false,aG,aE,dm,aV,ak];apply hK)
 refine bT.weak (aj (tm:=[jk,jk,ck h,ck t,jk,jk,jk,jk,jk,jk,jk,jk,jk,ck R1,.raw (.bool b1),ck R1,.raw (.bool b1),ck R2,.raw (.bool b2),ck R2,.raw (.bool b2),.one (.sl 75 0 0 k3),.raw (.bool b3),jk,jk,jk,jk,jk,jk,jk,jk,jk,jk,jk,jk,jk,jk,jk,jk,jk,jk,jk,jk,jk,jk,jk,jk,jk,jk,jk,jk,jk,jk,jk,jk,jk,jk,jk,jk,jk,jk,jk,jk,jk,jk,jk,jk,jk,jk,jk,jk,jk,jk,jk,jk,jk,jk,jk,jk,jk,jk,jk,jk,jk,jk,jk,jk,jk,jk,jk,jk,jk,jk,jk,jk,jk,jk,jk,jk,jk,jk,jk,jk,jk,jk,jk,jk,jk,jk,jk,jk,jk,jk,jk,jk]) (l:=[(75,eK 75 k3 k3 F3)]) ⟨dY 0 75 _ _ _,trivial⟩ (by simp[b9,bo,bj])) ?_
 refine bT.weak ((cQ 75 (dK (d:=75) (n:=k3) (c:=k3) (f:=F3) rfl)).trans (aj (tm:=[jk,jk,ck h,ck t,jk,jk,jk,jk,jk,jk,jk,jk,jk,ck R1,.raw (.bool b1),ck R1,.raw (.bool b1),ck R2,.raw (.bool b2),ck R2,.raw (.bool b2),ck (cd k3 k3 F3),.raw (.bool b3),jk,jk,jk,jk,jk,jk,jk,jk,jk,jk,jk,jk,jk,jk,jk,jk,jk,jk,jk,jk,jk,jk,jk,jk,jk,jk,jk,jk,jk,jk,jk,jk,jk,jk,jk,jk,jk,jk,jk,jk,jk,jk,jk,jk,jk,jk,jk,jk,jk,jk,jk,jk,jk,jk,jk,jk,jk,jk,jk,jk,jk,jk,jk,jk,jk,jk,jk,jk,jk,jk,jk,jk,jk,jk,jk,jk,jk,jk,jk,jk,jk,jk,jk,jk,jk,jk,jk,jk,jk,jk,jk,jk]) (l:=[]) trivial (by
  simp[b9,bo,bj]
  (repeat' apply And.intro)<;>first|rfl|exact(jZ (H:=Hm [(75,eK 75 k3 k3 F3)]) (d:=75) (n:=k3) (c:=k3) (f:=F3) rfl).symm))) ?_
 -- q, any
 (refine aa [⟨2,_,_,_,c6⟩] fun K hK=>?_;simp(disch:=omega) only[kc,ck,jE,ar.a,ab,Nat.reduceAdd,Hm,ai,aN,aC,List.find?_cons,aD,aX,CallRes.plain,List.isEmpty_cons,aF,aH,ap,Bool.not_false,noRefTV,am,Bool.or_false,aG,aE,dm,aV,ak];apply hK)
 refine bT.weak (aj (tm:=[jk,jk,jk,jk,jk,jk,jk,jk,jk,jk,jk,jk,jk,ck R1,.raw (.bool b1),ck R1,.raw (.bool b1),ck R2,.raw (.bool b2),ck R2,.raw (.bool b2),ck (cd k3 k3 F3),.raw (.bool b3),.one (.sl 81 0 0 k3),.raw (.bool b3),jk,jk,jk,jk,jk,jk,jk,jk,jk,jk,jk,jk,jk,jk,jk,jk,jk,jk,jk,jk,jk,jk,jk,jk,jk,jk,jk,jk,jk,jk,jk,jk,jk,jk,jk,jk,jk,jk,jk,jk,jk,jk,jk,jk,jk,jk,jk,jk,jk,jk,jk,jk,jk,jk,jk,jk,jk,jk,jk,jk,jk,jk,jk,jk,jk,jk,jk,jk,jk,jk,jk,jk,jk,jk,jk,jk,jk,jk,jk,jk,jk,jk,jk,jk,jk,jk,jk,jk,jk,jk]) (l:=[(81,eK 81 k3 k3 F3)]) ⟨dY 0 81 _ _ _,trivial⟩ (by simp[b9,bo,bj])) ?_
 refine bT.weak ((cQ 81 (dK (d:=81) (n:=k3) (c:=k3) (f:=F3) rfl)).trans (aj (tm:=[jk,jk,jk,jk,jk,jk,jk,jk,jk,jk,jk,jk,jk,ck R1,.raw (.bool b1),ck R1,.raw (.bool b1),ck R2,.raw (.bool b2),ck R2,.raw (.bool b2),ck (cd k3 k3 F3),.raw (.bool b3),ck (cd k3 k3 F3),.raw (.bool b3),jk,jk,jk,jk,jk,jk,jk,jk,jk,jk,jk,jk,jk,jk,jk,jk,jk,jk,jk,jk,jk,jk,jk,jk,jk,jk,jk,jk,jk,jk,jk,jk,jk,jk,jk,jk,jk,jk,jk,jk,jk,jk,jk,jk,jk,jk,jk,jk,jk,jk,jk,jk,jk,jk,jk,jk,jk,jk,jk,jk,jk,jk,jk,jk,jk,jk,jk,jk,jk,jk,jk,jk,jk,jk,jk,jk,jk,jk,jk,jk,jk,jk,jk,jk,jk,jk,jk,jk,jk,jk]) (l:=[]) trivial (by
  simp[b9,bo,bj]
  (repeat' apply And.intro)<;>first|rfl|exact(jZ (H:=Hm [(81,eK 81 k3 k3 F3)]) (d:=81) (n:=k3) (c:=k3) (f:=F3) rfl).symm))) ?_
 generalize cd k3 k3 F3=R3 at*
 clear c5 c6
 (refine aa [⟨6,_,_,_,s1⟩,⟨16,_,_,_,s2⟩,⟨26,_,_,_,s3⟩,⟨29,_,_,_,cA⟩] fun K hK=>?_;simp(disch:=omega) only[kc,ck,ar.a,ab,Nat.reduceAdd,Hm,ak,ah,eR,aB,ai,aN,aC,List.find?_cons,aD,aX,CallRes.plain,aF,aH,ap,noRefTV,am,aG,aE,bH,aQ,Nat.reduceBEq];apply hK)
 (refine ay ⟨.inr rfl,aO rfl ?_ rfl⟩;simp(disch:=omega) only[bE,Tryz.results4,aP,List.getElem?_cons_succ,List.getElem?_cons_zero])
end Go.Proofs.YtpgghglbpcabkaaGreat
