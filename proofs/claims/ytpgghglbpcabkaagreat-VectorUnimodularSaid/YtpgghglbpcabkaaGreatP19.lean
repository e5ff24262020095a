/-
  Part 20 of a proof (walks and plain facts).
-/
import Derived.Test.YtpgghglbpcabkaaGreatP18
set_option linter.all false
set_option maxRecDepth 100000
set_option maxHeartbeats 64000000
namespace Go.Proofs.YtpgghglbpcabkaaGreat
open Go.RowKit
def pC (L:List Int) (c:Nat):Nat->Nat->Int:=fun i j=>L.getD (BM L 0 (i*c+j)) 0
abbrev tG (rows cols:Nat) (L:List Int):TV:= .agg [.p (.raw (.int .u8 (rows:Int))),.p (.raw (.int .u8 (cols:Int))),.p (.sl (ls f8 L))]
abbrev Dx (rows cols:Nat) (L:List Int):List OObj:=[⟨25,3,[[.p (.raw (.int .u8 (rows:Int))),.p (.raw (.int .u8 (cols:Int))),.p (.sl (ls f8 L))]]⟩]
theorem Eo (rows cols:Nat) (L:List Int) (most n c:Nat) (hL:I8 L) (hrows:rows<=255) (hcols:cols<=255) (hm1:1<=most) (hm8:most<=8) (hn:n=1+rows%most) (hc:c=1+cols%most):
  CallC Tryz.prog 9 [tG rows cols L,.raw (.int .i64 (most:Int))] ⟨[],ey (dp n c (pC L c))⟩:=by
 have hn8:n<=8:=by have:=Nat.mod_lt rows (show 0<most by omega);omega
 have hc8:c<=8:=by have:=Nat.mod_lt cols (show 0<most by omega);omega
 have e1:Int.tmod (rows:Int) (most:Int)=((rows%most:Nat):Int):=(Int.ofNat_tmod rows most).symm
 have e2:Int.tmod (cols:Int) (most:Int)=((cols%most:Nat):Int):=(Int.ofNat_tmod cols most).symm
 have e3:1+((rows%most:Nat):Int)=(n:Int):=by omega
 have e4:1+((cols%most:Nat):Int)=(c:Int):=by omega
 clear hn hc
 refine aC Tryz.func9 rfl (by kernel_rfl) ?_;rw[Tryz.ntmps9]
 (refine aa [] fun K hK=>?_;simp(disch:=omega) only[kc,ab,tG,Nat.reduceAdd,List.replicate,cd,aT,aI,cellsOf,isPure,bL,ac,Value.oneCell'];apply hK)
 (refine aa [] fun K hK=>?_;simp(disch:=omega) only[kc,ab,Nat.reduceAdd,aw,ao,uv,rj,au,ax,og,eh,qJ,tO,Value.oneCell',ex,cellsOf,Nat.reduceLeDiff,bL,cd,aT,aI,isPure,Nat.reduceEqDiff];apply hK)
 refine BI 12 (cs:=BO L 0) rfl fun b=>?_
 refine gh.weak (am (tm:=[jk,.raw (.int .i64 (most:Int)),.one (.ptr 2 0 0 0),jk,jk,gP b,jk,jk,jk,jk,jk,jk,jk,jk,jk,jk,jk,jk,jk,jk,jk,jk,jk,jk,jk,jk,jk,jk,jk,jk,jk,jk,jk,jk,jk,jk,jk,jk,jk,jk,jk,jk,jk,jk,jk,jk,jk,jk,jk,jk,jk,jk,jk,jk]) (l:=[(2,Dx rows cols L)]) ⟨rfl,trivial⟩ (by simp[cu,bD,bA,vy,jq])) ?_
 (refine cB [] [] (by simp) fun K hK=>?_;simp(disch:=omega) only[kc,ab,Nat.reduceAdd,gP,Hm,aw,ao,uK,BE,Nat.add_zero,ax,wU,bf,aj,Tryz.underlying5,nD,bC,ai,e1,bL,ac,Value.oneCell',e3,ca,aT,aI,bi,qy,di,xq,Int.natCast_nonneg,and_true,Nat.reduceEqDiff];apply hK)
 (refine eL (cB [] [] (by simp) fun K hK=>?_);simp(disch:=omega) only[kc,ab,Nat.reduceAdd,aq,ao,bi,ac,Value.oneCell'];apply hK)
 refine pu (G:=uu n) (fun g=>⟨[jk,.raw (.int .i64 (most:Int)),.one (.ptr 2 0 0 0),jk,jk,gP b,.one (.sl 19 0 0 n),jk,jk,jk,jk,jk,jk,jk,jk,jk,jk,jk,jk,jk,jk,.raw (.int .i64 (n:Int)),.raw (.int .i64 (g.i:Int)),jk,jk,jk,jk,jk,jk,jk,jk,jk,jk,jk,jk,jk,jk,jk,jk,jk,jk,jk,jk,jk,jk,jk,jk,jk,jk,jk,jk,jk,jk,jk],Hm [(2,Dx rows cols L),(19,kI 19 n c g.i (part (pC L c) g.i 0))]⟩) (fun g=>BO L (BM L 0 (g.i*c))) (fun g=>n-g.i) ⟨0,by omega⟩ ?_ (by simp[BM]) ?_
 ·refine am ⟨rfl,?_,trivial⟩ ?_
  ·show[_]=_
   simp[kI,gd,dp]
  ·simp[cu,bD,bA]
 ·rintro⟨i,hi⟩
  simp only
  by_cases hm:i<n
  ·have k1:=Aq (i:=i) (n:=n) 19 c hm
   have k2:=rB (i:=i) (n:=n) 19 c hi
   have k3:=ci i c (part (pC L c) i 0)
   have k4:=xh (i:=i) (n:=n) (c:=c) 19 (part (pC L c) i 0) hm (fun j hj=>by unfold part;rw[if_neg (by omega)])
   have k5:=Bf (i:=i+1) (k:=i) (n:=n) 19 c (by omega)
   have k6:=rB (i:=i+1) (n:=n) 19 c (by omega)
   have k7:=iR (n:=i+1) c (part (pC L c) i 0) (i:=i) (by omega)
   (refine cB [] [] (by simp) fun K hK=>?_;simp(disch:=omega) only[kc,ab,gP,Hm,aj,ai,bE];apply hK)
   refine eL (dJ rfl (fun _=>lO ?_) (fun h=>by simp at h<;>omega))
   refine eL (gz ?_)
   (refine cB [] [] (by simp) fun K hK=>?_;simp(disch:=omega) only[kc,ab];apply hK)
   (refine cB [] [] (by simp) fun K hK=>?_;simp(disch:=omega) only[kc,ab,Nat.reduceAdd,aw,ao,u7,BE,Nat.reduceEqDiff,ax,wU,bf,aj,Tryz.underlying5,nD,bC,ai,e2,bL,ac,Value.oneCell',e4,ca,aT,aI,ch,tJ,ji,Ak,Int.natCast_nonneg,and_true,cH,ag,an,bi,au,di,aB,dr,bN,k1,putCells,List.length_replicate,List.all_replicate,isPure,List.length_map,k3,k4,aH,aL,Nat.reduceBEq];apply hK)
   refine gh.weak (am (tm:=[jk,.raw (.int .i64 (most:Int)),.one (.ptr 2 0 0 0),jk,jk,gP b,.one (.sl 19 0 0 n),.raw (.int .i64 (i:Int)),jk,jk,jk,jk,jk,jk,jk,jk,jk,jk,jk,jk,jk,.raw (.int .i64 (n:Int)),.raw (.int .i64 (i:Int)),jk,jk,jk,jk,jk,jk,jk,jk,jk,jk,jk,jk,jk,jk,jk,jk,jk,jk,jk,jk,jk,jk,jk,jk,jk,jk,jk,jk,jk,jk,jk]) (l:=[(2,Dx rows cols L),(19,kI 19 n c (i+1) (part (pC L c) i 0))]) ⟨rfl,?_,trivial⟩ (by simp[cu,bD,bA])) ?_
   ·first|exact k4|rfl
   (refine cB [] [] (by simp) fun K hK=>?_;simp(disch:=omega) only[kc,ab,Nat.reduceAdd,gP,Hm,ag,ao,an,bi,Nat.reduceEqDiff,di,bL,k5,ax,dm,aq,ch,ac,Value.oneCell'];apply hK)
   refine pu (G:=uu c) (fun g=>⟨[jk,.raw (.int .i64 (most:Int)),.one (.ptr 2 0 0 0),jk,jk,gP b,.one (.sl 19 0 0 n),.raw (.int .i64 (i:Int)),jk,jk,jk,jk,jk,jk,jk,jk,jk,jk,jk,jk,jk,.raw (.int .i64 (n:Int)),.raw (.int .i64 (i:Int)),jk,jk,jk,jk,jk,jk,jk,jk,jk,jk,jk,jk,jk,jk,jk,jk,.raw (.int .i64 (c:Int)),.raw (.int .i64 (g.i:Int)),jk,jk,jk,jk,jk,jk,jk,jk,jk,jk,jk,jk,jk],Hm [(2,Dx rows cols L),(19,kI 19 n c (i+1) (part (pC L c) i g.i))]⟩) (fun g=>BO L (BM L 0 (i*c+g.i))) (fun g=>c-g.i) ⟨0,by omega⟩ ?_ rfl ?_
   ·refine am ⟨rfl,rfl,trivial⟩ ?_
    simp[cu,bD,bA]
   ·rintro⟨j,hj⟩
    simp only
    by_cases hm2:j<c
    ·have c1:=uZ b L (BM L 0 (i*c+j)) hL (Bx (by omega) _)
     rw[show L.getD (BM L 0 (i*c+j)) 0=pC L c i j from rfl]at c1
     have g7:=iR (n:=i+1) c (part (pC L c) i j) (i:=i) (by omega)
     have g8:=ce (part (pC L c) i j i) hm2
     (refine cB [] [] (by simp) fun K hK=>?_;simp(disch:=omega) only[kc,ab,gP,Hm,aj,ai,bE];apply hK)
     refine eL (dJ rfl (fun _=>lO ?_) (fun h=>by simp at h<;>omega))
     refine eL (gz ?_)
     (refine cB [] [] (by simp) fun K hK=>?_;simp(disch:=omega) only[kc,ab];apply hK)
     ((refine uJ bU 6 c1 [] [] (by kernel_rfl) (by kernel_rfl) (by rfl) (by rfl) (by simp) fun K hK=>?_);simp(disch:=omega) only[kc,gP,ab,Nat.reduceAdd,ag,ao,an,bi,Nat.reduceEqDiff,di,bL,k5,ax,dm,ak,aT,aI,List.find?_cons,aQ,bo,CallRes.plain,aR,aV,az,noRefTV,ap,aS,aP,ch,g7,ji,aB,dr,bN,b8,fI,g8,cellsOf,Nat.le_refl,isPure,putCells,jx,aH,aL];apply hK)
     show gh _ _ _ _ _ _ _
     ((refine iM [] [] (by simp) fun K hK=>?_);simp(disch:=omega) only[kc,ab,aj,ac,Value.oneCell',ai,bC];apply hK)
     refine⟨⟨j+1,by omega⟩,by simp only;omega,am ⟨rfl,?_,trivial⟩ ?_,rfl⟩
     ·show _::_=_::_
      rw[dR fun x y _ _=>mI (pC L c) i j x y]
     ·simp[cu,bD,bA]
    ·have hjc:j=c:=by omega
     subst hjc
     (refine cB [] [] (by simp) fun K hK=>?_;simp(disch:=omega) only[kc,ab,gP,Hm,aj,ai,bj];apply hK)
     refine eL (dJ rfl (fun h=>by simp at h<;>omega) (fun _=>oo ?_))
     show gh _ _ _ _ _ _ _
     ((refine iM [] [] (by simp) fun K hK=>?_);simp(disch:=omega) only[kc,ab,aj,ac,Value.oneCell',ai,bC];apply hK)
     refine⟨⟨i+1,by omega⟩,by simp only;omega,am ⟨rfl,?_,trivial⟩ ?_,?_⟩
     ·show _::_=_::_
      rw[dR fun x y _ hy=>pF (pC L j) i x y hy]
     ·simp[cu,bD,bA]
     ·show BO L (BM L 0 ((i+1)*j))=_
      rw[Nat.add_mul,Nat.one_mul]
  ·have hin:i=n:=by omega
   subst hin
   have e:kI 19 i c i (part (pC L c) i 0)=qn 19 i c (pC L c):=by
    rw[zx]
    show _::_=_::_
    rw[dR fun x y hx _=>lI (pC L c) x y hx]
   rw[e]
   (refine cB [] [] (by simp) fun K hK=>?_;simp(disch:=omega) only[kc,ab,gP,Hm,aj,ai,bj];apply hK)
   refine eL (dJ rfl (fun h=>by simp at h<;>omega) (fun _=>oo ?_))
   show gh _ _ _ _ _ _ _
   refine gh.weak ((d4 19 (uo (d:=19) (n:=i) (c:=c) (f:=pC L c) rfl)).trans (am (tm:=[jk,jk,jk,jk,jk,jk,ey (dp i c (pC L c)),jk,jk,jk,jk,jk,jk,jk,jk,jk,jk,jk,jk,jk,jk,jk,jk,jk,jk,jk,jk,jk,jk,jk,jk,jk,jk,jk,jk,jk,jk,jk,jk,jk,jk,jk,jk,jk,jk,jk,jk,jk,jk,jk,jk,jk,jk,jk]) (l:=[]) trivial (by
    simp[cu,bD,bA]
    exact(ED (H:=Hm [(2,Dx rows cols L),(19,qn 19 i c (pC L c))]) (d:=19) (n:=i) (c:=c) (f:=pC L c) rfl).symm))) ?_
   (refine cB [] [] (by simp) fun K hK=>?_;simp(disch:=omega) only[kc,ab,ey,Hm];apply hK)
   refine wC ⟨.inr rfl,aJ rfl ?_ rfl⟩
   simp(disch:=omega) only[bK,Tryz.results9,aN,List.getElem?_cons_succ,List.getElem?_cons_zero,ey]
theorem C2 {L:List Int} (hL:I8 L) (c i j:Nat):yX (pC L c i j):=by
 have:=hL.getD (BM L 0 (i*c+j))
 unfold pC yX
 omega
theorem ni (t:List (List Int)) (l:List Int) (n rows cols:Nat) (L:List Int) (ht:MI t) (hl:I8 l) (hn:n<=255) (hL:I8 L) (hrows:rows<=255) (hcols:cols<=255):
  CallC Tryz.prog 3 [ey t,Aa l,.raw (.int .u8 (n:Int)),tG rows cols L] ⟨[],.raw (.bool true)⟩:=by
 have cA:=CV
 by_cases h1:20<t.length
 ·refine aC Tryz.func3 rfl (by kernel_rfl) ?_;rw[Tryz.ntmps3]
  (refine aa [] fun K hK=>?_;simp(disch:=omega) only[kc,ab,ey,Aa,tG,Nat.reduceAdd,List.replicate,cd,aT,aI,cellsOf,isPure,bL,ac,Value.oneCell'];apply hK)
  (refine ae (aa [] fun K hK=>?_);simp(disch:=omega) only[kc,ab,Nat.reduceAdd,aq,ao,bi,aD,aj,ac,Value.oneCell',ai,bE];apply hK)
  refine af rfl (fun _=>?_) (fun h=>by simp at h<;>omega)
  (refine aa [⟨0,_,_,_,cA⟩] fun K hK=>?_;simp(disch:=omega) only[kc,ar.a,ab,ak,aT,aI,List.find?_cons,aQ,CallRes.plain,aR,aV,noRefTV,ap,aS,aP];apply hK)
  (refine aE ⟨.inr rfl,aJ rfl ?_ rfl⟩;simp(disch:=omega) only[bK,Tryz.results3,aN,List.getElem?_cons_succ,List.getElem?_cons_zero])
 ·obtain⟨m,hm⟩: ∃m,m=1+n%5:=⟨_,rfl⟩
  have e1:Int.tmod (n:Int) 5=((n%5:Nat):Int):=(Int.ofNat_tmod n 5).symm
  have e2:1+((n%5:Nat):Int)=(m:Int):=by omega
  have hm1:1<=m:=by omega
  have hm5:m<=5:=by have:=Nat.mod_lt n (show 0<5 by omega);omega
  clear hm
  have cU:=D2 l m hl hm1 (by omega)
  have hI:MI (dp m m (mq l m)):=zN fun i j=>by have:=vu l m i j;unfold yX;omega
  have c1:=vN (dp m m (mq l m)) hI
  rw[tQ ((o6 _ hm1 (by omega)).2 (Cb l hm1))]at c1
  have c2:=vN t ht
  have c3:=A8 t ht
  have c4:=Eo rows cols L 3 _ _ hL hrows hcols (by omega) (by omega) rfl rfl
  rw[show((3:Nat):Int)=3 from rfl]at c4
  have hG:MI (dp (1+rows%3) (1+cols%3) (pC L (1+cols%3))):=zN fun i j=>C2 hL _ i j
  have c5:=vN _ hG
  have c6:=A8 _ hG
  generalize dp (1+rows%3) (1+cols%3) (pC L (1+cols%3))=G at*
  generalize mF t=b1 at*
  generalize mF G=b2 at*
  refine aC Tryz.func3 rfl (by kernel_rfl) ?_;rw[Tryz.ntmps3]
  (refine aa [] fun K hK=>?_;simp(disch:=omega) only[kc,ab,ey,Aa,tG,Nat.reduceAdd,List.replicate,cd,aT,aI,cellsOf,isPure,bL,ac,Value.oneCell'];apply hK)
  (refine ae (aa [] fun K hK=>?_);simp(disch:=omega) only[kc,ab,Nat.reduceAdd,aq,ao,bi,aD,aj,ac,Value.oneCell',ai,bj];apply hK)
  refine af rfl (fun h=>by simp at h<;>omega) (fun _=>ay ?_)
  show bX _ _ _ _
  (refine aa [⟨5,_,_,_,cU⟩] fun K hK=>?_;simp(disch:=omega) only[kc,Aa,ar.a,ab,Nat.reduceAdd,bf,aj,Tryz.underlying5,nD,bC,ac,Value.oneCell',ai,e1,bL,e2,ak,aT,aI,List.find?_cons,aQ,bo,CallRes.plain,List.isEmpty_cons,aR,aV,az,Bool.not_false,noRefTV,ap,Bool.or_false,aS,aP,db,au,Nat.reduceEqDiff];apply hK)
  refine bX.weak (am (tm:=[ey t,jk,jk,jk,jk,jk,jk,.one (.ptr 7 0 0 0),jk,.one (.sl 19 0 0 m),jk,jk,jk,jk,jk,jk,jk,jk,jk,jk,jk,jk,jk,jk,jk,jk,jk,jk,jk,jk,jk,jk,jk,jk,jk,jk,jk,jk,jk,jk,jk]) (l:=[(7,Dx rows cols L),(19,qn 19 m m (mq l m))]) ⟨rfl,q9 0 19 _ _ _,trivial⟩ (by simp[cu,bD,bA])) ?_
  refine bX.weak ((d4 19 (uo (d:=19) (n:=m) (c:=m) (f:=mq l m) rfl)).trans (am (tm:=[ey t,jk,jk,jk,jk,jk,jk,.one (.ptr 7 0 0 0),jk,ey (dp m m (mq l m)),jk,jk,jk,jk,jk,jk,jk,jk,jk,jk,jk,jk,jk,jk,jk,jk,jk,jk,jk,jk,jk,jk,jk,jk,jk,jk,jk,jk,jk,jk,jk]) (l:=[(7,Dx rows cols L)]) ⟨rfl,trivial⟩ (by
   simp[cu,bD,bA]
   (repeat' apply And.intro)<;>first|rfl|exact(ED (H:=Hm [(7,Dx rows cols L),(19,qn 19 m m (mq l m))]) (d:=19) (n:=m) (c:=m) (f:=mq l m) rfl).symm))) ?_
  (refine bM bU [⟨1,_,_,_,c1⟩,⟨4,_,_,_,c2⟩,⟨6,_,_,_,c3⟩,⟨11,_,_,_,c4⟩,⟨12,_,_,_,c5⟩,⟨14,_,_,_,c4⟩,⟨15,_,_,_,c6⟩,⟨19,_,_,_,cA⟩] [] (by kernel_rfl) (by simp) fun K hK=>?_;simp(disch:=omega) only[kc,ey,tG,ar.a,ab,Nat.reduceAdd,Hm,ak,aT,aI,List.find?_cons,aQ,bo,CallRes.plain,aR,aV,az,noRefTV,ap,aS,aP,aA,Nat.reduceBEq,bL,aj,ai,dK,aM,ao,ax,CN,Bv,Nat.le_refl,ac,Value.oneCell',isPure];apply hK)
  (refine aE ⟨.inr rfl,aJ rfl ?_ rfl⟩;simp(disch:=omega) only[bK,Tryz.results3,aN,List.getElem?_cons_succ,List.getElem?_cons_zero])
end Go.Proofs.YtpgghglbpcabkaaGreat
