/-
  Part 14 of a proof (walks and plain facts).
-/
import Derived.Test.YtpgghglbpcabkaaGreatP12
set_option linter.all false
set_option maxRecDepth 100000
set_option maxHeartbeats 64000000
namespace Go.Proofs.YtpgghglbpcabkaaGreat
open Go.RowKit
theorem yg {A B:List Nat} (g:xV A B) (h:A[g.i]?=some 0): ∃g':xV A B,g'.i=g.i+1/\g'.O=g.O:=by
 refine⟨⟨g.i+1,g.O,(List.getElem?_eq_some_iff.1 h).1,g.len,g.lmb,?_,fun k h1 h2=>g.zero k (by omega) h2⟩,rfl,rfl⟩
 rw[bS h,g.val];simp
theorem yd (A B:List Nat) (hlA:Lmb A) (hlB:Lmb B) (la:A.length<=536870912) (lb:B.length<=536870912):CallC Tryz.prog 119 [bO A,bO B] ⟨[],bO (aK (natV A*natV B))⟩:=by
 by_cases hsm:A.length<=1/\B.length<=1
 ·have hsm1:=hsm.1
  have hsm2:=hsm.2
  have w1:=k9 A hlA (by omega)
  have w2:=k9 B hlB (by omega)
  have b1:natV A<4294967296:=by
   have:=eO hlA
   exact Nat.lt_of_lt_of_le this (by have:=Nat.pow_le_pow_right (n:=4294967296) (by omega) hsm1;simpa using this)
  have b2:natV B<4294967296:=by
   have:=eO hlB
   exact Nat.lt_of_lt_of_le this (by have:=Nat.pow_le_pow_right (n:=4294967296) (by omega) hsm2;simpa using this)
  have hb:=j1 b1 b2
  have w3:=fY (natV A*natV B) (by omega)
  have e2:(natV A:Int)*(natV B:Int)=((natV A*natV B:Nat):Int):=by simp
  generalize natV A*natV B=p at*
  refine aC Tryz.func119 rfl (by kernel_rfl) ?_;rw[Tryz.ntmps119]
  (refine aa [] fun K hK=>?_;simp(disch:=omega) only[kc,ab,bO,Nat.reduceAdd,List.replicate,ac,Value.oneCell'];apply hK)
  (refine ae (aa [] fun K hK=>?_);simp(disch:=omega) only[kc,ab,Nat.reduceAdd,aq,ao,ah,aD,aj,ac,Value.oneCell',ai,bE,aA,bL,aM];apply hK)
  refine af rfl (fun _=>?_) (fun h=>by simp at h<;>omega)
  (refine aa [⟨1,_,_,_,w1⟩,⟨3,_,_,_,w2⟩,⟨5,_,_,_,w3⟩] fun K hK=>?_;simp(disch:=omega) only[kc,bO,ar.a,ab,Nat.reduceAdd,ak,aT,aI,List.find?_cons,aQ,bo,CallRes.plain,aR,aV,az,noRefTV,ap,aS,aP,Nat.reduceBEq,aj,ai,e2,cS];apply hK)
  (refine aE ⟨.inr rfl,aJ rfl ?_ rfl⟩;simp(disch:=omega) only[bK,Tryz.results119,aN,List.getElem?_cons_succ,List.getElem?_cons_zero,bO])
 ·have e0:((A.length:Int)+(B.length:Int)).toNat=A.length+B.length:=by omega
  refine aC Tryz.func119 rfl (by kernel_rfl) ?_;rw[Tryz.ntmps119]
  (refine aa [] fun K hK=>?_;simp(disch:=omega) only[kc,ab,bO,Nat.reduceAdd,List.replicate,ac,Value.oneCell'];apply hK)
  refine ae (jg (S:=⟨[bO A,bO B,jk,jk,jk,jk,jk,jk,jk,jk,jk,jk,jk,jk,jk,jk,jk,jk,jk,jk,jk,jk,jk,jk,jk,jk,jk,jk,jk,jk,jk,jk,jk,jk,jk,jk,jk,jk,jk,jk,jk,jk,jk,jk,jk,jk,jk,jk,jk,jk,jk,jk,jk,jk,jk,jk,jk,jk,jk,jk,jk,jk,jk,jk,jk,jk,jk,jk,jk,jk,jk,jk,jk,jk,jk,jk,jk,jk,jk,jk,jk,jk,jk,jk,jk,jk],Hm []⟩) ?_ ?_)
  ·by_cases h1:A.length<=1
   ·(refine aa [] fun K hK=>?_;simp(disch:=omega) only[kc,ab,Nat.reduceAdd,aq,ao,ah,aD,aj,ac,Value.oneCell',ai,bE,aA,bL,bj,aM];apply hK)
    refine af rfl (fun h=>by simp at h<;>omega) (fun _=>ay (am trivial ?_))
    simp[cu,bD,bA]
   ·(refine aa [] fun K hK=>?_;simp(disch:=omega) only[kc,ab,Nat.reduceAdd,aq,ao,ah,aD,aj,ac,Value.oneCell',ai,bj,aA,Option.map_none,aM];apply hK)
    refine af rfl (fun h=>by simp at h<;>omega) (fun _=>ay (am trivial ?_))
    simp[cu,bD,bA]
  ·(refine aa [] fun K hK=>?_;simp(disch:=omega) only[kc,ab,Nat.reduceAdd,bO,Hm,aq,ao,ah,aD,aj,ai,bC,ca,aT,aI,cp,aO,dz,Value.oneCell',and_true,e0,iV,bL];apply hK)
   (refine ae (aa [] fun K hK=>?_);simp(disch:=omega) only[kc,ab,Nat.reduceAdd,aq,ao,ah,aD,ac,Value.oneCell'];apply hK)
   refine bT (G:=xV A B) (fun g=>⟨[bO A,bO B,jk,jk,jk,.one (.sl 31 0 0 (A.length+B.length)),jk,jk,jk,jk,jk,jk,jk,jk,jk,jk,jk,jk,jk,jk,jk,jk,jk,jk,jk,jk,jk,jk,jk,jk,jk,jk,bO A,.raw (.int .i64 (A.length:Int)),.raw (.int .i64 (g.i:Int)),jk,jk,jk,jk,jk,jk,jk,jk,jk,jk,jk,jk,jk,jk,jk,jk,jk,jk,jk,jk,jk,jk,jk,jk,jk,jk,jk,jk,jk,jk,jk,jk,jk,jk,jk,jk,jk,jk,jk,jk,jk,jk,jk,jk,jk,jk,jk,jk,jk,jk,jk],Hm [(31,[⟨118,1,lc fU g.O⟩])]⟩) (fun g=>A.length-g.i) ⟨0,List.replicate (A.length+B.length) 0,by omega,by simp,fun x hx=>by simp at hx;omega,by simp[oU,natV],fun k h1 h2=>by rw[List.getElem?_replicate,if_pos h2]⟩ ?_ ?_
   ·refine am ⟨rfl,trivial⟩ ?_
    simp[cu,bD,bA]
   ·rintro⟨i,O,hi,len,lmb,val,zero⟩
    simp only
    by_cases hm:i<A.length
    ·obtain⟨x,hx⟩:=getElem?_of_lt hm
     have hx':=ct hlA hx
     (refine aa [] fun K hK=>?_;simp(disch:=omega) only[kc,ab,bO,Hm,aj,ai,bE];apply hK)
     refine ae (af rfl (fun _=>ay ?_) (fun h=>by simp at h<;>omega))
     refine ae (aU ?_)
     (refine aa [] fun K hK=>?_;simp(disch:=omega) only[kc,ab,Nat.reduceAdd,ag,ao,an,ah,bI,hx,fU,aO,ax,bu];apply hK)
     by_cases hx0:x=0
     ·subst hx0
      obtain⟨g',q1,q2⟩:=yg (⟨i,O,hi,len,lmb,val,zero⟩:xV A B) hx
      simp only at q1 q2
      (refine ae (aa [] fun K hK=>?_);simp(disch:=omega) only[kc,ab,aj,ac,Value.oneCell',ai,bE];apply hK)
      refine af rfl (fun _=>bF ?_) (fun h=>by simp at h)
      show bX _ _ _ _
      ((refine aX [] [] (by simp) fun K hK=>?_);simp(disch:=omega) only[kc,ab,aj,ac,Value.oneCell',ai,bC];apply hK)
      refine⟨g',by omega,am ⟨by rw[q2];rfl,trivial⟩ ?_⟩
      simp[cu,bD,bA,q1]
     ·have es:(i:Int)+(B.length:Int)+1=((i+B.length+1:Nat):Int):=by omega
      have el:i+B.length+1-i=B.length+1:=by omega
      (refine ae (aa [] fun K hK=>?_);simp(disch:=omega) only[kc,ab,aj,ac,Value.oneCell',ai,bj];apply hK)
      refine af rfl (fun h=>by simp at h<;>omega) (fun _=>ay ?_)
      show bX _ _ _ _
      (refine aa [] fun K hK=>?_;simp(disch:=omega) only[kc,ab,Nat.reduceAdd,aq,ao,ah,aD,aj,ai,bC,ac,Value.oneCell',es,gC,eS,an,aO,el,bL];apply hK)
      (refine aa [] fun K hK=>?_;simp(disch:=omega) only[kc,ab,ac,Value.oneCell'];apply hK)
      (refine ae (aa [] fun K hK=>?_);simp(disch:=omega) only[kc,ab,Nat.reduceAdd,aq,ao,ah,aD,ac,Value.oneCell'];apply hK)
      refine bT (G:=Af A B i x) (fun g=>⟨[bO A,bO B,jk,jk,jk,.one (.sl 31 0 0 (A.length+B.length)),jk,.raw (.int .u32 (x:Int)),.one (.sl 31 0 i (B.length+1)),.raw (.int .u64 (g.c:Int)),jk,jk,jk,jk,jk,jk,jk,jk,jk,jk,jk,jk,jk,jk,jk,jk,jk,jk,jk,jk,jk,jk,bO A,.raw (.int .i64 (A.length:Int)),.raw (.int .i64 (i:Int)),jk,jk,jk,jk,jk,jk,jk,jk,jk,jk,jk,jk,jk,jk,bO B,.raw (.int .i64 (B.length:Int)),.raw (.int .i64 (g.j:Int)),jk,jk,jk,jk,jk,jk,jk,jk,jk,jk,jk,jk,jk,jk,jk,jk,jk,jk,jk,jk,jk,jk,jk,jk,jk,jk,jk,jk,jk,jk,jk,jk,jk,jk],Hm [(31,[⟨118,1,lc fU g.O⟩])]⟩) (fun g=>B.length-g.j) ⟨0,O,0,by omega,len,lmb,by omega,by simpa[natV] using val,zero⟩ ?_ ?_
      ·refine am ⟨rfl,trivial⟩ ?_
       simp[cu,bD,bA]
      ·intro g
       by_cases hn:g.j<B.length
       ·obtain⟨y,hy⟩:=getElem?_of_lt hn
        have hy':=ct hlB hy
        have hlen:=g.len
        obtain⟨o,ho⟩:=getElem?_of_lt (show i+g.j<g.O.length by omega)
        have ho':=ct g.lmb ho
        have hb:=j1 hx' hy'
        have hgc:=g.hc
        obtain⟨g',q1,q2,q3⟩:=qp g hy ho hm hx' hy'
        have e2:(x:Int)*(y:Int)=((x*y:Nat):Int):=by simp
        generalize hp:x*y=p at*
        have e3:IntKind.u32.wrap ((g.c:Int)+((p:Int)+(o:Int)))=(((g.c+(p+o))%4294967296:Nat):Int):=by rw[<- nB];congr 1<;>omega
        have e4:Int.fdiv ((g.c:Int)+((p:Int)+(o:Int))) (2^(min 32 IntKind.u64.bits))=(((g.c+(p+o))/4294967296:Nat):Int):=by rw[<- ya];congr 1<;>omega
        (refine aa [] fun K hK=>?_;simp(disch:=omega) only[kc,ab,bO,Hm,aj,ai,bE];apply hK)
        refine ae (af rfl (fun _=>ay ?_) (fun h=>by simp at h<;>omega))
        refine ae (aU ?_)
        (refine aa [] fun K hK=>?_;simp(disch:=omega) only[kc,ab,Nat.reduceAdd,ag,ao,an,ah,bI,hy,fU,aO,ax,bu];apply hK)
        (refine aa [] fun K hK=>?_;simp(disch:=omega) only[kc,ab,Nat.reduceAdd,bf,aj,Tryz.underlying118,bP,cS,ai,e2,ag,ao,an,ah,aO,bL,b8,fU,ho,ax,bu];apply hK)
        (refine aa [] fun K hK=>?_;simp(disch:=omega) only[kc,ab,Nat.reduceAdd,bf,aj,Tryz.underlying88,bZ,e3,ag,ao,an,ah,aO,bL,aB,dr,bN,b8,fU,ho,cellsOf,Nat.le_refl,isPure,putCells,dy,aH,aL];apply hK)
        ((refine aX [] [] (by simp) fun K hK=>?_);simp(disch:=omega) only[kc,ab,Nat.reduceAdd,aj,ac,Value.oneCell',ai,Int.reduceLE,Int.reduceToNat,e4];apply hK)
        show bX _ _ _ _
        ((refine aX [] [] (by simp) fun K hK=>?_);simp(disch:=omega) only[kc,ab,aj,ac,Value.oneCell',ai,bC];apply hK)
        refine⟨g',by omega,am ⟨by rw[q2];rfl,trivial⟩ ?_⟩
        simp[cu,bD,bA,q1,q3]
       ·have hgj:=g.hj
        have hgc:=g.hc
        have hgl:=g.len
        obtain⟨g',q1,q2⟩:=qE hx g hn
        have e3:IntKind.u32.wrap (g.c:Int)=(g.c:Int):=by rw[nB];omega
        (refine aa [] fun K hK=>?_;simp(disch:=omega) only[kc,ab,bO,Hm,aj,ai,bj];apply hK)
        refine ae (af rfl (fun h=>by simp at h<;>omega) (fun _=>bF ?_))
        show bX _ _ _ _
        have hz:=g.zero (i+B.length) (Nat.le_refl _) (by omega)
        ((refine aX [] [] (by simp) fun K hK=>?_);simp(disch:=omega) only[kc,ab,Nat.reduceAdd,aq,ao,ah,aD,bf,aj,Tryz.underlying88,bZ,e3,ag,an,aO,bL,aB,dr,bN,b8,fU,hz,cellsOf,Nat.le_refl,isPure,putCells,dy,aH,aL];apply hK)
        show bX _ _ _ _
        ((refine aX [] [] (by simp) fun K hK=>?_);simp(disch:=omega) only[kc,ab,aj,ac,Value.oneCell',ai,bC];apply hK)
        refine⟨g',by omega,am ⟨by rw[q2];rfl,trivial⟩ ?_⟩
        simp[cu,bD,bA,q1]
    ·have hfin:natV O=natV A*natV B:=by
      have:i=A.length:=by omega
      rw[val,this,List.take_length]
     have ht:=dQ O (by omega)
     rw[dU lmb,hfin]at ht
     (refine aa [] fun K hK=>?_;simp(disch:=omega) only[kc,ab,bO,Hm,aj,ai,bj];apply hK)
     refine ae (af rfl (fun h=>by simp at h<;>omega) (fun _=>bF ?_))
     show bX _ _ _ _
     refine bX.weak ((d4 31 (dL rfl)).trans (am (tm:=[jk,jk,jk,jk,jk,bO O,jk,jk,jk,jk,jk,jk,jk,jk,jk,jk,jk,jk,jk,jk,jk,jk,jk,jk,jk,jk,jk,jk,jk,jk,jk,jk,jk,jk,jk,jk,jk,jk,jk,jk,jk,jk,jk,jk,jk,jk,jk,jk,jk,jk,jk,jk,jk,jk,jk,jk,jk,jk,jk,jk,jk,jk,jk,jk,jk,jk,jk,jk,jk,jk,jk,jk,jk,jk,jk,jk,jk,jk,jk,jk,jk,jk,jk,jk,jk,jk]) (l:=[]) trivial (by simp[cu,bD,bA,gR,eX,au,Hm,ew,d8,List.take_of_length_le,len]))) ?_
     (refine aa [⟨1,_,_,_,ht⟩] fun K hK=>?_;simp(disch:=omega) only[kc,bO,ar.a,ab,Nat.reduceAdd,Hm,ak,aT,aI,List.find?_cons,aQ,bo,CallRes.plain,aR,aV,az,noRefTV,ap,aS,aP];apply hK)
     (refine aE ⟨.inr rfl,aJ rfl ?_ rfl⟩;simp(disch:=omega) only[bK,Tryz.results119,aN,List.getElem?_cons_succ,List.getElem?_cons_zero,bO])
/-! Signed numbers. -/
theorem Bp {a b:Nat}:0<=fg a b↔b<=a:=by unfold fg;split<;>(try split)<;>omega
theorem vg {na nb:Bool} {a b:Nat} (h:na≠nb) (hle:b<=a):eY na (a-b)=eY na a+eY nb b:=by
 unfold eY;cases na<;>cases nb<;>simp at* <;>omega
theorem vm {na nb:Bool} {a b:Nat} (h:na≠nb) (hle:a<=b):eY nb (b-a)=eY na a+eY nb b:=by
 unfold eY;cases na<;>cases nb<;>simp at* <;>omega
theorem Dk (n:Bool) (a b:Nat):eY n (a+b)=eY n a+eY n b:=by unfold eY;cases n<;>simp<;>omega
theorem rP (na nb:Bool) (a b:Nat) (la:(aK a).length<=536870912) (lb:(aK b).length<=536870912):CallC Tryz.prog 118 [.raw (.bool na),bO (aK a),.raw (.bool nb),bO (aK b)] ⟨[],tZ (eY na a+eY nb b)⟩:=by
 by_cases hs:na=nb
 ·subst hs
  have h1:=qR (aK a) (aK b) (aY _) (aY _) la lb
  rw[aG,aG]at h1
  have h2:=dP na (a+b)
  rw[Dk]at h2
  refine aC Tryz.func118 rfl (by kernel_rfl) ?_;rw[Tryz.ntmps118]
  (refine aa [] fun K hK=>?_;simp(disch:=omega) only[kc,ab,bO,Nat.reduceAdd,List.replicate,bs,aT,aI,aZ,Value.oneCell',bL];apply hK)
  refine ae (aU ?_)
  (refine aa [] fun K hK=>?_;simp(disch:=omega) only[kc,ab,Nat.reduceAdd,aj,ai,dK];apply hK)
  refine af rfl (fun _=>?_) (fun h=>by simp at h)
  (refine aa [⟨3,_,_,_,h1⟩,⟨4,_,_,_,h2⟩] fun K hK=>?_;simp(disch:=omega) only[kc,bO,tZ,ar.a,ab,Nat.reduceAdd,ak,aT,aI,List.find?_cons,aQ,bo,CallRes.plain,aR,aV,az,noRefTV,ap,aS,aP,Nat.reduceBEq,aB,dr,bN,aF,au,cellsOf,Nat.le_refl,isPure,bL,putCells,aH,aL];apply hK)
  (refine aE ⟨.inr rfl,aJ rfl ?_ rfl⟩;simp(disch:=omega) only[kc,bK,Tryz.results118,aN,au,cH,ax,aF,aW,Nat.reduceAdd,Nat.le_refl,tZ])
 ·have hne:(na==nb)=false:=by simpa using hs
  have h0:=nZ (aK a) (aK b) (aY _) (aY _) (cw _) (cw _) (by omega) (by omega)
  rw[aG,aG]at h0
  have hge:=Bp (a:=a) (b:=b)
  by_cases hle:b<=a
  ·have h1:=my (aK a) (aK b) (aY _) (aY _) (fO (aY _) (cw _) (by rw[aG,aG];exact hle)) (by rw[aG,aG];exact hle) la
   rw[aG,aG]at h1
   have h2:=dP na (a-b)
   rw[vg hs hle]at h2
   have hc:0<=fg a b:=hge.2 hle
   generalize fg a b=cv at*
   refine aC Tryz.func118 rfl (by kernel_rfl) ?_;rw[Tryz.ntmps118]
   (refine aa [] fun K hK=>?_;simp(disch:=omega) only[kc,ab,bO,Nat.reduceAdd,List.replicate,bs,aT,aI,aZ,Value.oneCell',bL];apply hK)
   refine ae (aU ?_)
   (refine aa [] fun K hK=>?_;simp(disch:=omega) only[kc,ab,Nat.reduceAdd,aj,ai,dK,hne];apply hK)
   refine af rfl (fun h=>by simp at h) (fun _=>?_)
   (refine aa [⟨2,_,_,_,h0⟩] fun K hK=>?_;simp(disch:=omega) only[kc,bO,ar.a,ab,Nat.reduceAdd,ak,aT,aI,List.find?_cons,aQ,bo,CallRes.plain,aR,aV,az,noRefTV,ap,aS,aP,aj,ac,Value.oneCell',ai,bE];apply hK)
   refine af rfl (fun _=>?_) (fun h=>by simp at h<;>omega)
   (refine aa [⟨3,_,_,_,h1⟩,⟨4,_,_,_,h2⟩] fun K hK=>?_;simp(disch:=omega) only[kc,bO,tZ,ar.a,ab,Nat.reduceAdd,ak,aT,aI,List.find?_cons,aQ,bo,CallRes.plain,aR,aV,az,noRefTV,ap,aS,aP,Nat.reduceBEq,aB,dr,bN,aF,au,cellsOf,Nat.le_refl,isPure,bL,putCells,aH,aL];apply hK)
   (refine aE ⟨.inr rfl,aJ rfl ?_ rfl⟩;simp(disch:=omega) only[kc,bK,Tryz.results118,aN,au,cH,ax,aF,aW,Nat.reduceAdd,Nat.le_refl,tZ])
  ·have h1:=my (aK b) (aK a) (aY _) (aY _) (fO (aY _) (cw _) (by rw[aG,aG];omega)) (by rw[aG,aG];omega) lb
   rw[aG,aG]at h1
   have h2:=dP nb (b-a)
   rw[vm hs (by omega)]at h2
   have hc: ¬0<=fg a b:=fun h=>hle (hge.1 h)
   generalize fg a b=cv at*
   refine aC Tryz.func118 rfl (by kernel_rfl) ?_;rw[Tryz.ntmps118]
   (refine aa [] fun K hK=>?_;simp(disch:=omega) only[kc,ab,bO,Nat.reduceAdd,List.replicate,bs,aT,aI,aZ,Value.oneCell',bL];apply hK)
   refine ae (aU ?_)
   (refine aa [] fun K hK=>?_;simp(disch:=omega) only[kc,ab,Nat.reduceAdd,aj,ai,dK,hne];apply hK)
   refine af rfl (fun h=>by simp at h) (fun _=>?_)
   (refine aa [⟨2,_,_,_,h0⟩] fun K hK=>?_;simp(disch:=omega) only[kc,bO,ar.a,ab,Nat.reduceAdd,ak,aT,aI,List.find?_cons,aQ,bo,CallRes.plain,aR,aV,az,noRefTV,ap,aS,aP,aj,ac,Value.oneCell',ai,bj];apply hK)
   refine af rfl (fun h=>by simp at h<;>omega) (fun _=>ay ?_)
   show bX _ _ _ _
   (refine aa [⟨3,_,_,_,h1⟩,⟨4,_,_,_,h2⟩] fun K hK=>?_;simp(disch:=omega) only[kc,bO,tZ,ar.a,ab,Nat.reduceAdd,ak,aT,aI,List.find?_cons,aQ,bo,CallRes.plain,aR,aV,az,noRefTV,ap,aS,aP,Nat.reduceBEq,aB,dr,bN,aF,au,cellsOf,Nat.le_refl,isPure,bL,putCells,aH,aL];apply hK)
   (refine aE ⟨.inr rfl,aJ rfl ?_ rfl⟩;simp(disch:=omega) only[kc,bK,Tryz.results118,aN,au,cH,ax,aF,aW,Nat.reduceAdd,Nat.le_refl,tZ])
theorem DS (a b:Int) (ha:Bh a) (hb:Bh b):CallC Tryz.prog 86 [tZ a,tZ b] ⟨[],tZ (a-b)⟩:=by
 have t1:=dQ (aK a.natAbs) ha.bg.len
 have t2:=dQ (aK b.natAbs) hb.bg.len
 rw[fx]at t1 t2
 have h:=rP (decide (a<0)) (!decide (b<0)) a.natAbs b.natAbs ha.len hb.len
 rw[rA,vo,<- Int.sub_eq_add_neg]at h
 refine aC Tryz.func86 rfl (by kernel_rfl) ?_;rw[Tryz.ntmps86]
 (refine aa [] fun K hK=>?_;simp(disch:=omega) only[kc,ab,Nat.reduceAdd,tZ,List.replicate,cd,aT,aI,cellsOf,isPure,bL,au,Nat.reduceEqDiff,bs,aZ,Value.oneCell',cH];apply hK)
 (refine bM bU [⟨4,_,_,_,t1⟩,⟨10,_,_,_,t2⟩,⟨11,_,_,_,h⟩] [] (by kernel_rfl) (by simp) fun K hK=>?_;simp(disch:=omega) only[kc,bO,tZ,ar.a,ab,Nat.reduceAdd,aw,ao,bJ,cC,Nat.add_zero,au,Nat.reduceEqDiff,cH,ax,cg,bH,cb,bW,ak,aT,aI,List.find?_cons,aQ,bo,CallRes.plain,aR,aV,az,noRefTV,ap,aS,aP,cX,aj,eA,Nat.reduceBEq,aB,dr,bN,aF,cellsOf,Nat.le_refl,isPure,bL,putCells,aH,aL];apply hK)
 (refine aE ⟨.inr rfl,aJ rfl ?_ rfl⟩;simp(disch:=omega) only[kc,bK,Tryz.results86,aN,au,Nat.reduceEqDiff,cH,ax,aF,aW,Nat.reduceAdd,Nat.le_refl,tZ])
theorem AX (a b:Int) (ha:Bh a) (hb:Bh b):CallC Tryz.prog 87 [tZ a,tZ b] ⟨[],tZ (a*b)⟩:=by
 have t1:=dQ (aK a.natAbs) ha.bg.len
 have t2:=dQ (aK b.natAbs) hb.bg.len
 rw[fx]at t1 t2
 have h:=yd (aK a.natAbs) (aK b.natAbs) (aY _) (aY _) ha.len hb.len
 rw[aG,aG]at h
 have h2:=dP (!(decide (a<0)==decide (b<0))) (a.natAbs*b.natAbs)
 rw[wN]at h2
 refine aC Tryz.func87 rfl (by kernel_rfl) ?_;rw[Tryz.ntmps87]
 (refine aa [] fun K hK=>?_;simp(disch:=omega) only[kc,ab,Nat.reduceAdd,tZ,List.replicate,cd,aT,aI,cellsOf,isPure,bL,au,Nat.reduceEqDiff,bs,aZ,Value.oneCell',cH];apply hK)
 (refine bM bU [⟨7,_,_,_,t1⟩,⟨10,_,_,_,t2⟩,⟨11,_,_,_,h⟩,⟨12,_,_,_,h2⟩] [] (by kernel_rfl) (by simp) fun K hK=>?_;simp(disch:=omega) only[kc,bO,tZ,ar.a,ab,Nat.reduceAdd,aw,ao,bJ,cC,Nat.add_zero,au,Nat.reduceEqDiff,cH,ax,cg,aj,ai,dK,bH,cb,bW,ak,aT,aI,List.find?_cons,aQ,bo,CallRes.plain,aR,aV,az,noRefTV,ap,aS,aP,Nat.reduceBEq,aB,dr,bN,aF,cellsOf,Nat.le_refl,isPure,bL,putCells,aH,aL];apply hK)
 (refine aE ⟨.inr rfl,aJ rfl ?_ rfl⟩;simp(disch:=omega) only[kc,bK,Tryz.results87,aN,au,Nat.reduceEqDiff,cH,ax,aF,aW,Nat.reduceAdd,Nat.le_refl,tZ])
theorem EN {U V L v1 high q : Nat} (hV : v1 * 4294967296 * L <= V) (hU : U < (high + 1) * 4294967296 * L) (hq : q * V <= U) (hL : 0 < L) : q * v1 <= high := by
  have h1 : q * (v1 * 4294967296 * L) <= q * V := Nat.mul_le_mul_left _ hV
  have h2 : (q * v1) * (4294967296 * L) < (high + 1) * (4294967296 * L) := by
    calc (q * v1) * (4294967296 * L) = q * (v1 * 4294967296 * L) := by grind
      _ <= q * V := h1
      _ <= U := hq
      _ < (high + 1) * 4294967296 * L := hU
      _ = (high + 1) * (4294967296 * L) := by grind
  have := Nat.lt_of_mul_lt_mul_right h2
  omega
theorem E3 {U V L v1 v2 u0 high g r q : Nat} (hV : (v1 * 4294967296 + v2) * L <= V) (hU : U < (high * 4294967296 + u0 + 1) * L) (hq : q * V <= U) (hg : g * v1 + r = high) (h : r * 4294967296 + u0 < g * v2) : q < g := by
  by_cases hc : q < g
  · exact hc
  · exfalso
    have h1 : g * ((v1 * 4294967296 + v2) * L) <= U := Nat.le_trans (Nat.mul_le_mul (Nat.le_of_not_lt hc) hV) hq
    have h2 : (g * (v1 * 4294967296 + v2)) * L < (high * 4294967296 + u0 + 1) * L := by
      calc (g * (v1 * 4294967296 + v2)) * L = g * ((v1 * 4294967296 + v2) * L) := by grind
        _ <= U := h1
        _ < _ := hU
    have h3 := Nat.lt_of_mul_lt_mul_right h2
    have h4 : g * (v1 * 4294967296 + v2) = g * v1 * 4294967296 + g * v2 := by grind
    have h5 : high * 4294967296 = g * v1 * 4294967296 + r * 4294967296 := by rw [<- hg]; grind
    omega
theorem B7 {U V L vl v1 v2 t3 g q : Nat} (hV : V = (v1 * 4294967296 + v2) * L + vl) (hvl : vl < L) (hU : t3 * L <= U) (hq : U < (q + 1) * V) (hg : g * (v1 * 4294967296 + v2) <= t3) (hB : g <= 4294967296) (hv1 : 1 <= v1) : g <= q + 1 := by
  have h1 : g * V <= U + g * vl := by
    calc g * V = (g * (v1 * 4294967296 + v2)) * L + g * vl := by rw [hV]; grind
      _ <= t3 * L + g * vl := Nat.add_le_add_right (Nat.mul_le_mul_right _ hg) _
      _ <= _ := Nat.add_le_add_right hU _
  have h2 : g * vl <= 4294967296 * L := Nat.mul_le_mul hB (Nat.le_of_lt hvl)
  have h3 : 4294967296 * L <= V := by
    rw [hV]
    have : 4294967296 * L <= (v1 * 4294967296 + v2) * L := Nat.mul_le_mul_right _ (by omega)
    omega
  have h4 : g * V < (q + 2) * V := by
    calc g * V <= U + V := by omega
      _ < (q + 1) * V + V := by omega
      _ = (q + 2) * V := by grind
  have := Nat.lt_of_mul_lt_mul_right h4
  omega
structure BN (u v:List Nat) (g:Nat) where
 i:Nat
 us:List Nat
 c:Nat
 b:Nat
 hi:i<=v.length
 len:us.length=i
 lmb:Lmb us
 hc:c<4294967296
 hb:b<=1
 val:natV us+g*natV (v.take i)=natV (u.take i)+(c+b)*4294967296^i
def BN.start (u v:List Nat) (g:Nat):BN u v g:=⟨0,[],0,0,Nat.zero_le _,rfl,fun a h=>by simp at h,by omega,by omega,by simp[natV]⟩
theorem ka (l:List Nat) (a:Nat):natV (l++[a])=natV l+a*4294967296^l.length:=by
 rw[fP];simp[natV];grind
theorem jM {l:List Nat} {a:Nat} (h:Lmb l) (ha:a<4294967296):Lmb (l++[a]):=fun x hx=>by
 rcases List.mem_append.1 hx with h1|h1
 ·exact h x h1
 ·simp at h1;omega
theorem ss {g x c:Nat} (hg:g<=4294967296) (hx:x<4294967296) (hc:c<4294967296):c+g*x<18446744073709551616/\(c+g*x)/4294967296<4294967296:=by
 have:g*x<=4294967296*4294967295:=Nat.mul_le_mul hg (by omega)
 omega
theorem CL {u v:List Nat} {g:Nat} (m:BN u v g) {x y l b':Nat} (hg:g<=4294967296) (hx:v[m.i]?=some x) (hy:u[m.i]?=some y) (lv:Lmb v) (hl:l<4294967296) (hb':b'<=1)
  (ht:l+(m.c+g*x)%4294967296+m.b=y+b'*4294967296): ∃m':BN u v g,m'.i=m.i+1/\m'.us=m.us++[l]/\m'.c=(m.c+g*x)/4294967296/\m'.b=b':=by
 have hx':=ct lv hx
 refine⟨⟨m.i+1,m.us++[l],(m.c+g*x)/4294967296,b',?_,by rw[List.length_append,m.len];rfl,jM m.lmb hl,(ss hg hx' m.hc).2,hb',?_⟩,rfl,rfl,rfl,rfl⟩
 ·have:=(List.getElem?_eq_some_iff.1 hx).1;omega
 ·have hv:=m.val
  rw[ka,m.len,bS hx,bS hy,Nat.pow_succ]
  have hs:m.c+g*x=(m.c+g*x)%4294967296+4294967296*((m.c+g*x)/4294967296):=by omega
  generalize(m.c+g*x)%4294967296=lo at*
  generalize(m.c+g*x)/4294967296=hi' at*
  generalize 4294967296^m.i=p at*
  have h1:g*(natV (v.take m.i)+x*p)=g*natV (v.take m.i)+g*x*p:=by grind
  have h2:g*x=lo+4294967296*hi'-m.c:=by omega
  have h3:(l+lo+m.b)*p=(y+b'*4294967296)*p:=by rw[ht]
  have h4:(m.c+g*x)*p=(lo+4294967296*hi')*p:=by rw[hs]
  grind
structure Di (u v:List Nat) where
 i:Nat
 us:List Nat
 c:Nat
 hi:i<=v.length
 len:us.length=i
 lmb:Lmb us
 hc:c<=1
 val:natV us+c*4294967296^i=natV (u.take i)+natV (v.take i)
def Di.start (u v:List Nat):Di u v:=⟨0,[],0,Nat.zero_le _,rfl,fun a h=>by simp at h,by omega,by simp[natV]⟩
theorem CJ {u v:List Nat} (m:Di u v) {x y:Nat} (hx:v[m.i]?=some x) (hy:u[m.i]?=some y) (lv:Lmb v) (lu:Lmb u):
  ∃m':Di u v,m'.i=m.i+1/\m'.us=m.us++[(m.c+(y+x))%4294967296]/\m'.c=(m.c+(y+x))/4294967296:=by
 have hx':=ct lv hx
 have hy':=ct lu hy
 have hc:=m.hc
 refine⟨⟨m.i+1,m.us++[(m.c+(y+x))%4294967296],(m.c+(y+x))/4294967296,?_,by rw[List.length_append,m.len];rfl,jM m.lmb (Nat.mod_lt _ (by omega)),by omega,?_⟩,rfl,rfl,rfl⟩
 ·have:=(List.getElem?_eq_some_iff.1 hx).1;omega
 ·have hv:=m.val
  rw[ka,m.len,bS hx,bS hy,Nat.pow_succ]
  have hs:m.c+(y+x)=(m.c+(y+x))%4294967296+4294967296*((m.c+(y+x))/4294967296):=by omega
  generalize(m.c+(y+x))%4294967296=lo at*
  generalize(m.c+(y+x))/4294967296=hi' at*
  generalize 4294967296^m.i=p at*
  have h4:(m.c+(y+x))*p=(lo+4294967296*hi')*p:=by rw[hs]
  grind
theorem Bk {U V g q R:Nat} (hq:q=U/V) (hg:q<=g) (h:R+g*V=U) (hV:0<V):g=q/\R=U%V:=by
 have h1:g<=U/V:=(Nat.le_div_iff_mul_le hV).2 (by omega)
 have h2:g=q:=by omega
 refine⟨h2,?_⟩
 have:=Nat.div_add_mod U V
 rw[<- hq,<- h2,Nat.mul_comm]at this
 omega
theorem De {U V g q R T Bn c t W:Nat} (hq:q=U/V) (hg:g<=q+1) (h:R+g*V=U+4294967296*Bn) (hlt:U<g*V) (hV:0<V) (hVB:V<=Bn) (hW:W<Bn)
  (hR:R=T+t*Bn) (ht:W+c*Bn=T+V) (hc:c<=1) (htt:t<4294967296):g=q+1/\(t+c)%4294967296=0/\W=U%V:=by
 have h1:g=q+1:=by
  by_cases hh:g=q+1
  ·exact hh
  ·exfalso
   have:g*V<=(U/V)*V:=Nat.mul_le_mul_right _ (by omega)
   have:=Nat.div_mul_le_self U V
   omega
 have h2:=Nat.div_add_mod U V
 have h3:=Nat.mod_lt U hV
 rw[<- hq]at h2
 subst h1
 have h4:(q+1)*V=V*q+V:=by grind
 have h5:W+(t+c)*Bn=U%V+4294967296*Bn:=by
  have:(t+c)*Bn=t*Bn+c*Bn:=by grind
  omega
 have h6:t+c=4294967296:=by
  rcases Nat.lt_trichotomy (t+c) 4294967296 with hh|hh|hh
  ·exfalso
   have:(t+c)*Bn+Bn<=4294967296*Bn:=by
    have:=Nat.mul_le_mul_right Bn (show t+c+1<=4294967296 by omega)
    have e:(t+c+1)*Bn=(t+c)*Bn+Bn:=by grind
    omega
   omega
  ·exact hh
  ·omega
 refine⟨rfl,by rw[h6],?_⟩
 rw[h6]at h5
 omega
def b9:Nat->Nat->List Nat
 |0,_=>[]
 |n+1,x=>x%4294967296::b9 n (x/4294967296)
theorem b6: ∀n x,(b9 n x).length=n
 |0,_=>rfl
 |n+1,x=>by simp[b9,b6 n]
theorem jz: ∀n x,Lmb (b9 n x)
 |0,_=>fun a h=>by simp[b9]at h
 |n+1,x=>by rw[b9,dB];exact⟨Nat.mod_lt _ (by omega),jz n _⟩
theorem qx: ∀n x,natV (b9 n x)=x%4294967296^n
 |0,x=>by simp[b9,natV,Nat.mod_one]
 |n+1,x=>by
  rw[b9,natV,qx n,Nat.pow_succ,Nat.mul_comm (4294967296^n),Nat.mod_mul]
theorem eR {n x:Nat} (h:x<4294967296^n):natV (b9 n x)=x:=by rw[qx,Nat.mod_eq_of_lt h]
theorem v8: ∀{l:List Nat},Lmb l->l=b9 l.length (natV l)
 |[],_=>rfl
 |a::l,h=>by
  rw[dB]at h
  have h1:(a+4294967296*natV l)%4294967296=a:=by omega
  have h2:(a+4294967296*natV l)/4294967296=natV l:=by omega
  show a::l=b9 (l.length+1) (natV (a::l))
  rw[b9,natV,h1,h2,<- v8 h.2]
theorem ue {l:List Nat} {n x:Nat} (h:Lmb l) (hn:l.length=n) (hx:natV l=x):l=b9 n x:=by
 subst hn hx;exact v8 h
theorem eH: ∀{n x i:Nat},i<n->(b9 n x)[i]?=some (x/4294967296^i%4294967296)
 |0,_,_,h=>by omega
 |n+1,x,0,_=>by simp[b9]
 |n+1,x,i+1,h=>by
  rw[b9,List.getElem?_cons_succ,eH (by omega),Nat.div_div_eq_div_mul,Nat.pow_succ,Nat.mul_comm 4294967296]
theorem mw {n x:Nat} (h:x<4294967296^n):dG (b9 n x)=aK x:=by
 rw[dU (jz _ _),eR h]
theorem lJ {l:List Nat} {i a:Nat} (h:l[i]?=some a):natV (l.drop i)=a+4294967296*natV (l.drop (i+1)):=by rw[dM h,natV]
/-! Short division. -/
theorem As {a b Y:Nat} (hb:0<b) (ha:a<4294967296):(a+4294967296*Y)/b%4294967296=(Y%b*4294967296+a)/b/\(a+4294967296*Y)/b/4294967296=Y/b/\(a+4294967296*Y)%b=(Y%b*4294967296+a)%b:=by
 have h1:=Nat.div_add_mod Y b
 have h2:=Nat.mod_lt Y hb
 generalize hq:Y/b=q at*
 generalize hr:Y%b=r at*
 have e:a+4294967296*Y=b*(4294967296*q)+(r*4294967296+a):=by rw[<- h1];grind
 have hlt:(r*4294967296+a)/b<4294967296:=by
  rw[Nat.div_lt_iff_lt_mul hb]
  have:(r+1)*4294967296<=b*4294967296:=Nat.mul_le_mul_right _ (by omega)
  omega
 rw[e,Nat.mul_add_div hb,Nat.mul_add_mod]
 generalize(r*4294967296+a)/b=t at*
 refine⟨by omega,by omega,Nat.mul_add_mod _ _ _⟩
theorem Cs {l:List Nat} {i a b n:Nat} (hn:l.length=n) (hi:i<n) (ha:l[i]?=some a) (ha':a<4294967296) (hb:0<b):
  (l.take (i+1)++b9 (n-(i+1)) (natV (l.drop (i+1))/b)).set i ((natV (l.drop (i+1))%b*4294967296+a)/b)=l.take i++b9 (n-i) (natV (l.drop i)/b)/\
  (natV (l.drop (i+1))%b*4294967296+a)%b=natV (l.drop i)%b:=by
 obtain⟨h1,h2,h3⟩:=As (Y:=natV (l.drop (i+1))) hb ha'
 rw[lJ ha]
 refine⟨?_,h3.symm⟩
 rw[show n-i=n-(i+1)+1 by omega,b9,h1,h2,List.take_add_one,ha]
 simp only[Option.toList_some,List.append_assoc,List.singleton_append]
 rw[List.set_append_right _ _ (by simp;omega)]
 have e:i-(l.take i).length=0:=by simp;omega
 rw[e,List.set_cons_zero]
/-! Shifts. -/
theorem sR {s:Nat} (hs:s<32):2^s<=2147483648/\1<=2^s:=⟨by have:=Nat.pow_le_pow_right (n:=2) (by omega) (show s<=31 by omega);simpa using this,Nat.one_le_two_pow⟩
theorem zw {X Y s:Nat} (hs:s<=32):(X+18446744073709551616*Y)/2^s%4294967296=X/2^s%4294967296:=by
 have e:18446744073709551616*Y=2^s*(2^(32-s)*(4294967296*Y)):=by
  rw[<- Nat.mul_assoc,<- Nat.pow_add,show s+(32-s)=32 by omega];grind
 rw[e,Nat.add_mul_div_left _ _ (Nat.two_pow_pos s)]
 have e2:2^(32-s)*(4294967296*Y)=4294967296*(2^(32-s)*Y):=by grind
 rw[e2,Nat.add_mul_mod_self_left]
theorem EB {l:List Nat} (hl:Lmb l) {i s:Nat} (hs:s<=32):natV l/2^s/4294967296^i%4294967296=(l.getD i 0+4294967296*l.getD (i+1) 0)/2^s%4294967296:=by
 have e:natV l/2^s/4294967296^i=natV (l.drop i)/2^s:=by
  rw[Nat.div_div_eq_div_mul,Nat.mul_comm,<- Nat.div_div_eq_div_mul]
  congr 1
  by_cases hi:i<=l.length
  ·have h1:natV l=natV (l.take i)+4294967296^i*natV (l.drop i):=by
    conv=>lhs;rw[<- List.take_append_drop i l]
    rw[fP,List.length_take,Nat.min_eq_left hi]
   have h2:=d6 hl i
   rw[h1,Nat.add_mul_div_left _ _ (Nat.pow_pos (by omega)),Nat.div_eq_of_lt h2,Nat.zero_add]
  ·rw[List.drop_eq_nil_iff.2 (by omega)]
   have h2:=eO hl
   have h3:4294967296^l.length<=4294967296^i:=Nat.pow_le_pow_right (by omega) (by omega)
   rw[Nat.div_eq_of_lt (by omega)];rfl
 rw[e]
 have g: ∀j,natV (l.drop j)=l.getD j 0+4294967296*natV (l.drop (j+1)):=fun j=>by
  rw[List.getD_eq_getElem?_getD]
  cases h:l[j]? with
  |none=>
   rw[List.getElem?_eq_none_iff]at h
   rw[List.drop_eq_nil_iff.2 h,List.drop_eq_nil_iff.2 (by omega)];rfl
  |some a=>exact lJ h
 rw[g i,g (i+1)]
 have e2:l.getD i 0+4294967296*(l.getD (i+1) 0+4294967296*natV (l.drop (i+1+1)))=(l.getD i 0+4294967296*l.getD (i+1) 0)+18446744073709551616*natV (l.drop (i+1+1)):=by grind
 rw[e2,zw hs]
theorem wB {l:List Nat} (hl:Lmb l) {i s n v:Nat} (hs:s<=32) (hn:l.length=n) (hi:i<n) (hv:v=(l.getD i 0+4294967296*l.getD (i+1) 0)/2^s%4294967296):
  ((b9 n (natV l/2^s)).take i++l.drop i).set i v=(b9 n (natV l/2^s)).take (i+1)++l.drop (i+1):=by
 have hg:=eH (n:=n) (x:=natV l/2^s) hi
 rw[EB hl hs,<- hv]at hg
 have hd:l.drop i=l[i]'(by omega)::l.drop (i+1):=List.drop_eq_getElem_cons (by omega)
 rw[List.set_append_right _ _ (by simp[b6];omega),List.take_add_one,hg,hd]
 have e:i-((b9 n (natV l/2^s)).take i).length=0:=by simp[b6];omega
 rw[e,List.set_cons_zero]
 simp
def po (m:List Nat) (s i:Nat):Nat:=natV (m.take i)*2^s/4294967296^i
theorem Ek {m:List Nat} (hm:Lmb m) (s i:Nat):po m s i<2^s:=by
 unfold po
 rw[Nat.div_lt_iff_lt_mul (Nat.pow_pos (by omega)),Nat.mul_comm]
 exact Nat.mul_lt_mul_of_pos_left (d6 hm i) (Nat.two_pow_pos s)
theorem Ce {m:List Nat} {s i a:Nat} (ha:m[i]?=some a):po m s i+a*2^s=natV (m.take (i+1))*2^s/4294967296^i/\(po m s i+a*2^s)/4294967296=po m s (i+1):=by
 have h1:=bS ha
 have e:natV (m.take (i+1))*2^s=natV (m.take i)*2^s+4294967296^i*(a*2^s):=by rw[h1];grind
 have h2:po m s i+a*2^s=natV (m.take (i+1))*2^s/4294967296^i:=by
  unfold po
  rw[e,Nat.add_mul_div_left _ _ (Nat.pow_pos (by omega))]
 refine⟨h2,?_⟩
 rw[h2]
 unfold po
 rw[Nat.div_div_eq_div_mul,Nat.pow_succ]
theorem Et {m:List Nat} {s i j:Nat} (hj:j<i) (hi:i<=m.length):natV (m.take i)*2^s/4294967296^j%4294967296=natV m*2^s/4294967296^j%4294967296:=by
 have h1:natV m=natV (m.take i)+4294967296^i*natV (m.drop i):=by
  conv=>lhs;rw[<- List.take_append_drop i m]
  rw[fP,List.length_take,Nat.min_eq_left hi]
 obtain⟨d,rfl⟩: ∃d,i=j+1+d:=⟨i-(j+1),by omega⟩
 have e:natV m*2^s=natV (m.take (j+1+d))*2^s+4294967296^j*(4294967296*(4294967296^d*natV (m.drop (j+1+d))*2^s)):=by
  rw[h1,Nat.pow_add,Nat.pow_add];grind
 rw[e,Nat.add_mul_div_left _ _ (Nat.pow_pos (by omega)),Nat.add_mul_mod_self_left]
theorem pU {n x:Nat}:b9 (n+1) x=b9 n x++[x/4294967296^n%4294967296]:=by
 apply List.ext_getElem?
 intro i
 rcases Nat.lt_trichotomy i n with h|h|h
 ·rw[eH (by omega),List.getElem?_append_left (by rw[b6];exact h),eH h]
 ·subst h
  rw[eH (by omega),List.getElem?_append_right (by rw[b6];exact Nat.le_refl _),b6,Nat.sub_self];rfl
 ·rw[List.getElem?_eq_none (by rw[b6];omega),List.getElem?_eq_none (by simp[b6];omega)]
section
theorem uW {a:Act} {d:Option Tmp} {k:Nat} (v:Value) (h:d≠some k):(a.put d v).tmps[k]?=a.tmps[k]?:=by
 cases d with
 |none=>rfl
 |some d=>
  have:d≠k:=fun e=>h (by rw[e])
  simp[Act.put,Array.getElem?_setIfInBounds_ne this]
def kt (k:Nat) (v0:Value) (w0:World) (O X:Nat->Prop) (s:AS) (a:Act) (w:World):Prop:=fM w0 O X s a w/\a.tmps[k]?=some v0
def ib (P:Program) (k:Nat) (c:Code) (Q:Exit->AS->Prop) (s:AS):Prop:=
 ∀(v0:Value) (w0:World) (O X:Nat->Prop) (a:Act) (w:World),kt k v0 w0 O X s a w->c.wp P (fun e a' w'=> ∃s',Q e s'/\kt k v0 w0 O X s' a' w') a w
def m6 (k:Nat) (ops:Array Oper):Bool:=ops.toList.all fun o=>o.dst !=some k
section
variable {P:Program} {k:Nat} {s s':AS} {Q:Exit->AS->Prop}
theorem kt.weak {v0:Value} {w0 w:World} {O X:Nat->Prop} {a:Act} (h:du s s') (r:kt k v0 w0 O X s a w):kt k v0 w0 O X s' a w:=⟨h _ _ _ _ _ r.1,r.2⟩
theorem ib.weak {c:Code} (h:du s s') (r:ib P k c Q s'):ib P k c Q s:=fun _ _ _ _ _ _ q=>r _ _ _ _ _ _ (q.weak h)
theorem ib.mono {c:Code} {Q':Exit->AS->Prop} (h:ib P k c Q s) (q: ∀e s',Q e s'->Q' e s'):ib P k c Q' s:=fun _ _ _ _ _ _ r=>
 wp_mono (h _ _ _ _ _ _ r) fun _ _ _ ⟨s',h1,h2⟩=>⟨s',q _ _ h1,h2⟩
theorem ez (h:Q .normal s):ib P k .skip Q s:=fun _ _ _ _ _ _ r=>wp_skip ⟨s,h,r⟩
theorem f5 {id:Nat} (h:Q (.exit id) s):ib P k (.exit id) Q s:=fun _ _ _ _ _ _ r=>wp_exit ⟨s,h,r⟩
theorem se (h:Q .ret s):ib P k .ret Q s:=fun _ _ _ _ _ _ r=>wp_ret ⟨s,h,r⟩
theorem cI {x y:Code} (h:ib P k x (jm (ib P k y Q) Q) s):ib P k (.seq x y) Q s:=fun _ _ _ _ _ _ r=>
 wp_seq (wp_mono (h _ _ _ _ _ _ r) fun e a w ⟨s',h1,h2⟩=>by
  cases e with
  |normal=>exact h1 _ _ _ _ _ _ h2
  |_=>exact⟨s',h1,h2⟩)
theorem fi {id:Nat} {x:Code} (h:ib P k x (kV id Q) s):ib P k (.block id x) Q s:=fun _ _ _ _ _ _ r=>
 wp_block (wp_mono (h _ _ _ _ _ _ r) fun e a w ⟨s',h1,h2⟩=>by
  cases e with
  |exit id'=>
   simp only[kV]at h1
   simp only[Exit.inBlock]
   split at h1
   ·rename_i hid;rw[if_pos hid];exact⟨s',h1,h2⟩
   ·rename_i hid;rw[if_neg hid];exact⟨s',h1,h2⟩
  |_=>exact⟨s',h1,h2⟩)
theorem cP {c:Operand} {x y:Code} {b:Bool} (hc:s.ev c=some (.raw (.bool b))) (ht:b=true->ib P k x Q s) (hf:b=false->ib P k y Q s):ib P k (.cond c x y) Q s:=fun _ _ _ _ _ _ r=>by
 obtain⟨h1,hsz,ρ,hinv,htm⟩:=id r.1
 have hb:=(cW (dD htm c _ hc)).1
 exact wp_cond_split hb (fun h=>ht h _ _ _ _ _ _ r) (fun h=>hf h _ _ _ _ _ _ r)
theorem A6 {G:Type} (St:G->AS) (μ:G->Nat) (g0:G) {c:Code} (h0:du s (St g0))
  (round: ∀g,ib P k c (jm (fun s'=> ∃g',μ g'<μ g/\du s' (St g')) Q) (St g)):ib P k (.loop c) Q s:=fun v0 w0 O X a w r=>by
 classical
 let p:Act->World->Nat->Prop:=fun a w n=> ∃g,μ g=n/\kt k v0 w0 O X (St g) a w
 let m:Act->World->Nat:=fun a w=>if h: ∃n,p a w n then Classical.choose (ck h)else 0
 refine wp_loop (fun a w=> ∃n,p a w n) m ⟨_,g0,rfl,r.weak h0⟩ ?_
 intro a w hI
 have hm:m a w=Classical.choose (ck hI):=dif_pos hI
 obtain⟨hp,hleast⟩:=Classical.choose_spec (ck hI)
 rw[<- hm]at hp
 obtain⟨g,hg,hr⟩:=hp
 refine wp_mono (round g _ _ _ _ _ _ hr) fun e a' w' ⟨s',h1,h2⟩=>?_
 cases e with
 |normal=>
  obtain⟨g',hlt,hw⟩:=h1
  have hr':=h2.weak hw
  have hI': ∃n,p a' w' n:=⟨_,g',rfl,hr'⟩
  refine⟨hI',?_⟩
  have hm':m a' w'=Classical.choose (ck hI'):=dif_pos hI'
  obtain⟨_,hl'⟩:=Classical.choose_spec (ck hI')
  have:=hl' (μ g') ⟨g',rfl,hr'⟩
  rw[hm']
  omega
 |_=>exact⟨s',h1,h2⟩
theorem jQ {G:Type} (St:G->AS) (μ:G->Nat) (g0:G) {id:Nat} {x:Code} (h0:du s (St g0))
  (round: ∀g,ib P k x (jm (fun s'=> ∃g',μ g'<μ g/\du s' (St g')) (kV id Q)) (St g)):ib P k (.block id (.loop x)) Q s:=
 fi (A6 St μ g0 h0 round)
theorem Dp {items:List (dN P)} (hI:fc P items) {ow:List Nat} {ops:Array Oper} {i:Nat} {v0:Value} {w0 w:World} {O X:Nat->Prop} {a:Act} (hrel:kt k v0 w0 O X s a w) {o:Oper} (hd:o.dst≠some k) (h:cz P items ow ops i o s=some s') {K:Act->World->Prop} {Q:Exit->Act->World->Prop}
  (hK: ∀v w',kt k v0 w0 O X s' (a.put o.dst v) w'->K (a.put o.dst v) w'):if Region.wanted o (yielded ops a.tmps)then o.wp P a w K Q else K (a.put o.dst undef) w:=
 gO hI hrel.1 h fun v w' hr=>hK v w' ⟨hr,by rw[uW v hd];exact hrel.2⟩
theorem tX {ops:Array Oper} (h:m6 k ops=true) {j:Nat} {o:Oper} (ho:ops[j]?=some o):o.dst≠some k:=by
 unfold m6 at h
 rw[List.all_eq_true]at h
 have:=h o (List.mem_of_getElem? (by simpa using ho))
 simpa using this
theorem oN {items:List (dN P)} (hI:fc P items) {ow:List Nat} {ops:Array Oper} (hk:m6 k ops=true) {v0:Value} {w0:World} {O X:Nat->Prop} {Q:Exit->Act->World->Prop}: ∀(l:List Oper) (n:Nat) (s s':AS) (a:Act) (w:World),(∀(j:Nat) o,l[j]?=some o->ops[n+j]?=some o)->
  iz P items ow ops (l.zipIdx n) s=some s'->kt k v0 w0 O X s a w->(∀a' w',kt k v0 w0 O X s' a' w'->Q .normal a' w')->wpOps P ops Q (List.range' n l.length) a w
 |[],n,s,s',a,w,_,h,r,hQ=>by
  simp only[List.zipIdx_nil,iz]at h
  injection h with h
  subst h
  exact hQ a w r
 |o::l,n,s,s',a,w,hl,h,r,hQ=>by
  simp only[List.zipIdx_cons,iz]at h
  split at h
  ·rename_i s1 hs1
   simp only[List.length_cons,List.range'_succ,wpOps]
   have ho:ops[n]?=some o:=by have:=hl 0 o rfl;simpa using this
   rw[ho]
   simp only
   have:=Dp (Q:=Q) hI r (tX hk ho) hs1 (K:=wpOps P ops Q (List.range' (n+1) l.length)) (fun v w' hr=>oN hI hk l (n+1) s1 s' _ _ (fun j o hj=>by have:=hl (j+1) o (by simpa using hj);rwa[show n+(j+1)=n+1+j by omega]at this) h hr hQ)
   split at this
   ·rename_i hw;rw[if_pos hw];exact .inl this
   ·rename_i hw;rw[if_neg hw];exact this
  ·cases h
theorem we (items:List (ar P)) (ow:List Nat) {id:Nat} {ops:Array Oper} (hk:m6 k ops=true) (hl:s.tmps.length<=1000000) (h:dS P (items.map ar.a) ow (cY ops ops.toList 0) (some s) (Q .normal)):ib P k (.region id ops false) Q s:=fun v0 w0 O X a w r=>by
 obtain⟨s',h1,h2⟩:=dw P (items.map ar.a) ow ops ops.toList 0 s (Q .normal) hl h
 refine wp_region ?_
 rw[List.range_eq_range']
 have:=oN (ar.ok items) hk (Q:=fun e a' w'=> ∃s',Q e s'/\kt k v0 w0 O X s' a' w') ops.toList 0 s s' a w (fun j o hj=>by simpa using hj) h1 r (fun a' w' hr=>⟨s',h2,hr⟩)
 simpa using this
theorem Ah (hmx:P.follows .mixedOrders=true) (items:List (ar P)) (ow:List Nat) {id:Nat} {ops:Array Oper} (hd:eJ [] ops=true) (hk:m6 k ops=true) (hl:s.tmps.length<=1000000) (h:dS P (items.map ar.a) ow (cY ops ops.toList 0) (some s) (Q .normal)):ib P k (.region id ops true) Q s:=fun v0 w0 O X a w r=>by
 obtain⟨sF,h1,h2⟩:=dw P (items.map ar.a) ow ops ops.toList 0 s (Q .normal) hl h
 refine wp_region_any hmx ?_
 have hF:fp P (items.map ar.a) ow ops (List.range ops.size) s=some sF:=by
  rw[List.range_eq_range']
  have:=jV (P:=P) (items:=items.map ar.a) (ow:=ow) ops.toList 0 s (fun j o hj=>by simpa using hj)
  rw[h1]at this
  simpa using this.symm
 have hr':kt k v0 w0 O X s a {w with drawn:=w.drawn+1}:=by
  obtain⟨⟨q1,q2,ρ,hinv,htm⟩,hs⟩:=r
  have e:Ext w {w with drawn:=w.drawn+1}:=⟨rfl,rfl,rfl,Nat.le_refl _,fun _ _=>rfl⟩
  have htm:cn X ρ s a w:=htm
  exact⟨⟨q1,q2,ρ,hinv.grow e,htm.grow e⟩,hs⟩
 refine kD (sep:=[]) (ol hd (by simp)) hd (Q:=fun e a' w'=> ∃s',Q e s'/\kt k v0 w0 O X s' a' w') (fun _ s a w=>kt k v0 w0 O X s a w) ⟨jC r.1,fun x hx=>by simp at hx⟩ hF (fun p a w hall hr=>⟨sF,h2,hr⟩) (fun p i o s s1 a w K ho hpi hs hr hK=>?_) ops.size (Array.replicate ops.size false) s a _ (by simp) ?_ ?_ ?_ hr'
 ·exact Dp (ar.ok items) hr (tX hk ho) hs fun v w' hr'=>hK v w' hr'
 ·intro j o ho hp
  have hj:j<ops.size:=(Array.getElem?_eq_some_iff.1 ho).1
  simp[hj]at hp
 ·exact Nat.le_trans (List.length_filter_le _ _) (by simp)
 ·have:oy ops.size (fun j=>(Array.replicate ops.size false).getD j true)=[]:=by
   unfold oy
   rw[List.filter_eq_nil_iff]
   intro j hj
   have:=List.mem_range.1 hj
   simp[this]
  rw[this]
  rfl
theorem bG (items:List (ar P)) (ow:List Nat) {id:Nat} {ops:Array Oper} {y:Code} (hk:m6 k ops=true) (hl:s.tmps.length<=1000000) (h: ∀K:AS->Prop,(∀s',ib P k y Q s'->K s')->dS P (items.map ar.a) ow (cY ops ops.toList 0) (some s) K):ib P k (.seq (.region id ops false) y) Q s:=
 cI (we items ow hk hl (h _ fun _ h=>h))
theorem eG (items:List (ar P)) (ow:List Nat) {id:Nat} {ops:Array Oper} (hk:m6 k ops=true) (hl:s.tmps.length<=1000000) (h: ∀K:AS->Prop,(∀s',Q .normal s'->K s')->dS P (items.map ar.a) ow (cY ops ops.toList 0) (some s) K):ib P k (.region id ops false) Q s:=
 we items ow hk hl (h _ fun _ h=>h)
theorem gp (hmx:P.follows .mixedOrders=true) (items:List (ar P)) (ow:List Nat) {id:Nat} {ops:Array Oper} {y:Code} (hd:eJ [] ops=true) (hk:m6 k ops=true) (hl:s.tmps.length<=1000000) (h: ∀K:AS->Prop,(∀s',ib P k y Q s'->K s')->dS P (items.map ar.a) ow (cY ops ops.toList 0) (some s) K):ib P k (.seq (.region id ops true) y) Q s:=
 cI (Ah hmx items ow hd hk hl (h _ fun _ h=>h))
end
/-! The contract of a function that writes a row. -/
def rho1 (b c:Nat):eZ:=fun a r=>if a=0/\r=0 then some (b,c)else none
structure mR (P:Program) (f:FuncId) (args:List TV) (k off len:Nat) (o o':OObj) (r:TV):Prop where
 able:callable P f=true
 es:o'.es=o.es
 size:o'.elems.length=o.elems.length
 pure: ∀e∈o'.elems,∀x∈e,isPure x=true
 noref:noRefTV r=true
 calls: ∀(X:Nat->Prop) (w:World) (vs:Array Value) (b c:Nat),(∀j,X j->j<w.heap.size)-> ¬X b->objRel (rho1 b c) (famH 0 [o]) (fun j=>X j\/j=b) w 0 0 o->vs.size=args.length->
  vs[k]?=some (.slice (some ⟨b,off*o.es,none⟩) len (c-off))->(∀(j:Nat) t,j≠k->args[j]?=some t-> ∃v:Value,vs[j]?=some v/\t.rel (fun _ _=>none) (fun _=>[]) (fun j=>X j\/j=b) w v)->
  Calls P f vs w fun e w'=> ∃v,e= .returned v/\But b w w'/\objRel (rho1 b c) (famH 0 [o']) (fun j=>X j\/j=b) w' 0 0 o'/\r.rel (rho1 b c) (famH 0 [o']) (fun j=>X j\/j=b) w' v
theorem FB {X:Nat->Prop} {b c:Nat} {o:OObj}:Xo X (rho1 b c) (famH 0 [o])=fun j=>X j\/j=b:=by
 funext j
 apply propext
 constructor
 ·rintro(h|⟨a,r,o',c',h1,h2⟩)
  ·exact .inl h
  ·unfold rho1 at h2
   split at h2
   ·injection h2 with h2;injection h2 with h2 h3;exact .inr h2.symm
   ·cases h2
 ·rintro(h|rfl)
  ·exact .inl h
  ·exact .inr ⟨0,0,o,c,rfl,by simp[rho1]⟩
theorem nj {a r:Nat} {o o':OObj} (h:(famH 0 [o] a)[r]?=some o'):a=0/\r=0/\o'=o:=by
 unfold famH at h
 split at h
 ·rename_i ha
  cases r with
  |zero=>simp at h;exact⟨ha,rfl,h.symm⟩
  |succ r=>simp at h
 ·simp at h
theorem io {ρ ρ':eZ} {H H':OH} {Y:Nat->Prop} {w:World} {a r a' r':Nat} {o:OObj} (hp: ∀e∈o.elems,∀x∈e,isPure x=true) (h:objRel ρ H Y w a r o) (hρ:ρ' a' r'=ρ a r):objRel ρ' H' Y w a' r' o:=by
 obtain⟨h1,h2,h3⟩:=h
 refine⟨h1,h2,?_⟩
 rw[hρ]
 cases hr:ρ a r with
 |none=>rw[hr]at h3;exact h3
 |some bc=>
  obtain⟨b,c⟩:=bc
  rw[hr]at h3
  obtain⟨cells,g1,g2,g3,g4,g5⟩:=h3
  refine⟨cells,g1,g2,g3,g4,fun i e j x he hx=>?_⟩
  obtain⟨v,v1,v2,v3⟩:=g5 i e j x he hx
  refine⟨v,v1,v2,?_⟩
  have:=hp e (List.mem_of_getElem? he) x (List.mem_of_getElem? hx)
  cases x with
  |p x=>exact v3
  |_=>cases this
theorem j6 {ρ ρ':eZ} {H H':OH} {Y:Nat->Prop} {w:World} {r:TV} {v:Value} (hn:noRefTV r=true) (h:r.rel ρ H Y w v):r.rel ρ' H' Y w v:=by
 have av: ∀x u,ap x=true->AV.rel ρ H Y w x u->AV.rel ρ' H' Y w x u:=fun x u hx hu=>by
  cases x with
  |p x=>exact hu
  |junk=>trivial
  |_=>cases hx
 have agg: ∀cs v,cs.all ap=true->cE ρ H Y w cs v->cE ρ' H' Y w cs v:=fun cs v hc ⟨vs,g1,g2,g3⟩=>by
  simp only[List.all_eq_true]at hc
  exact⟨vs,g1,g2,fun j x hx=>by obtain⟨u,u1,u2,u3⟩:=g3 j x hx;exact⟨u,u1,u2,av x u (hc x (List.mem_of_getElem? hx)) u3⟩⟩
 cases r with
 |one x=>exact av x v hn h
 |agg cs=>exact agg cs v hn h
 |fn f cs=>obtain⟨u,h1,h2⟩:=h;exact⟨u,agg cs u hn h1,h2⟩
 |tup ts=>
  simp only[noRefTV,List.all_eq_true]at hn
  obtain⟨vs,g1,g2,g3⟩:=h
  refine⟨vs,g1,g2,fun j c cs hj=>?_⟩
  obtain⟨u,u1,u2⟩:=g3 j c cs hj
  have hall:=hn (c,cs) (List.mem_of_getElem? hj)
  refine⟨u,u1,?_⟩
  rcases u2 with⟨u2,u3⟩|⟨u2,x,rfl,u4⟩
  ·exact .inl ⟨u2,agg _ _ (List.all_eq_true.2 hall) u3⟩
  ·exact .inr ⟨u2,x,rfl,av x u (hall x (by simp)) u4⟩
def Fk (P:Program) (fn:Func) (k off len:Nat) (o':OObj) (r:TV) (s:AS):Prop:=
 s.tmps[k]?=some (.one (.sl 0 0 off len))/\s.H=famH 0 [o']/\bK P s fn.results.toList=some r
theorem oc {P:Program} {f:FuncId} {fn:Func} {c:Code} {args:List TV} {k off len:Nat} {o o':OObj} {r:TV} (hf:P.funcs[f]?=some fn) (hb:fn.body=some c) (hn:callable P f=true) (hk:k<args.length) (hlen:0<len) (hol:off+len<=o.elems.length) (hop: ∀e∈o.elems,∀x∈e,isPure x=true)
  (he:o'.es=o.es) (hs:o'.elems.length=o.elems.length) (hp: ∀e∈o'.elems,∀x∈e,isPure x=true) (hr:noRefTV r=true)
  (h:ib P k c (fun e s=>(e= .normal\/e= .ret)/\ ∃s',du s s'/\Fk P fn k off len o' r s') ⟨args.set k (.one (.sl 0 0 off len))++List.replicate (fn.ntmps-args.length) .undef,famH 0 [o]⟩):mR P f args k off len o o' r:=by
 refine⟨hn,he,hs,hp,hr,fun X w vs b cc hX hXb hobj hvs hvk hargs=>?_⟩
 refine calls_of_wp hf hb ?_
 have hXo:=FB (X:=X) (b:=b) (c:=cc) (o:=o)
 have hblt:b<w.heap.size:=by
  obtain⟨_,_,q⟩:=hobj
  simp only[rho1,and_self,if_true]at q
  obtain⟨cells,q1,_⟩:=q
  exact(Array.getElem?_eq_some_iff.1 q1).1
 have hrel:kt k (.slice (some ⟨b,off*o.es,none⟩) len (cc-off)) w (fun j=>j=b) X ⟨args.set k (.one (.sl 0 0 off len))++List.replicate (fn.ntmps-args.length) .undef,famH 0 [o]⟩ {tmps:=vs++Array.replicate (fn.ntmps-vs.size) undef,defers:=[]} w:=by
  refine⟨⟨rfl,by simp[hvs],rho1 b cc,⟨Keep.refl w,fun a r o1 ho=>?_,fun a r a' r' o1 o2 b1 c1 c2 ho ho' _ _=>?_,fun a r o1 b1 c1 ho h1=>?_,hX,fun a r o1 ho=>?_⟩,fun t x hx=>?_⟩,?_⟩
  ·obtain⟨rfl,rfl,rfl⟩:=nj ho
   show objRel _ _ (Xo X (rho1 b cc) (famH 0 [o1])) w 0 0 o1
   rw[hXo];exact hobj
  ·obtain⟨rfl,rfl,_⟩:=nj ho
   obtain⟨rfl,rfl,_⟩:=nj ho'
   exact⟨rfl,rfl⟩
  ·obtain⟨rfl,rfl,_⟩:=nj ho
   simp only[rho1,and_self,if_true]at h1
   injection h1 with h1
   injection h1 with h1 h2
   subst h1
   exact⟨.inr rfl,hXb⟩
  ·obtain⟨rfl,rfl,rfl⟩:=nj ho
   exact dx hop
  ·show ∃v:Value,_/\x.rel (rho1 b cc) (famH 0 [o]) (Xo X (rho1 b cc) (famH 0 [o])) w v
   rw[hXo]
   by_cases ht:t<args.length
   ·rw[List.getElem?_append_left (by simpa using ht)]at hx
    by_cases htk:t=k
    ·subst htk
     rw[List.getElem?_set_self ht]at hx
     injection hx with hx
     subst hx
     exact⟨_,by rw[Array.getElem?_append_left (by omega)];exact hvk,o,rfl,hol,.inr ⟨b,cc,by simp[rho1],rfl⟩⟩
    ·rw[List.getElem?_set_ne (Ne.symm htk)]at hx
     obtain⟨v,v1,v2⟩:=hargs t x htk hx
     refine⟨v,by rw[Array.getElem?_append_left (by omega)];exact v1,TV.rel_map v2 (fun y u hy=>?_)⟩
     cases y with
     |p y=>exact hy
     |sl a r off len=>obtain⟨o,h1,_⟩:=hy;simp at h1
     |ptr a r i j=>obtain⟨o,_,_,h1,_⟩:=hy;simp at h1
     |junk=>trivial
   ·rw[List.getElem?_append_right (by simp;omega),List.getElem?_replicate]at hx
    split at hx
    ·rename_i hlt
     injection hx with hx
     subst hx
     refine⟨undef,?_,gy⟩
     simp at hlt
     rw[Array.getElem?_append_right (by omega),Array.getElem?_replicate,if_pos (by omega)]
    ·cases hx
  ·show(vs++_)[k]?=_
   rw[Array.getElem?_append_left (by omega)];exact hvk
 refine wp_mono (h _ _ _ _ _ _ hrel) fun e a' w' ⟨s1,⟨hee,s2,hw,hW1,hW2,hW3⟩,hrel1⟩=>?_
 obtain⟨⟨h1,hsz,ρ,hinv,htm⟩,hslot⟩:=hrel1.weak hw
 have htm:cn X ρ s2 a' w':=htm
 rw[hW2]at hinv
 obtain⟨v,v1,v2⟩:=kN (by rw[hW2];exact hinv) htm hW3
 rw[hW2]at v2
 -- the row has not moved
 obtain⟨u,u1,u2⟩:=htm k _ hW1
 rw[hslot]at u1
 injection u1 with u1
 subst u1
 obtain⟨o2,g1,g2,g3⟩:=u2
 rw[hW2]at g1
 obtain⟨_,_,rfl⟩:=nj g1
 have hρ:ρ 0 0=some (b,cc):=by
  rcases g3 with⟨_,g4,_,_⟩|⟨b',c',g4,g5⟩
  ·cases g4
  ·injection g5 with g5 g6 g7
   injection g5 with g5
   injection g5 with g5 g8
   subst g5
   have hobj2:=hinv.objs 0 0 o2 rfl
   obtain⟨q1,q2,q3⟩:=hobj2
   rw[g4]at q3
   obtain⟨cells,q4,q5,q6,_⟩:=q3
   obtain⟨p1,p2,p3⟩:=hobj
   simp only[rho1,and_self,if_true]at p3
   obtain⟨cells',p4,p5,p6,_⟩:=p3
   rw[g4,show c'=cc by omega]
 have hXo2:Xo X ρ (famH 0 [o2])=fun j=>X j\/j=b:=by
  funext j
  apply propext
  constructor
  ·rintro(h|⟨a,r,o3,c',h1,h2⟩)
   ·exact .inl h
   ·obtain⟨rfl,rfl,_⟩:=nj h1
    rw[hρ]at h2
    injection h2 with h2;injection h2 with h2 h3;exact .inr h2.symm
  ·rintro(h|rfl)
   ·exact .inl h
   ·exact .inr ⟨0,0,o2,cc,rfl,hρ⟩
 have hob:=hinv.objs 0 0 o2 rfl
 rw[hXo2]at hob
 rw[hXo2]at v2
 have hbut:But b w w':=⟨hinv.keep.os,hinv.keep.tape,hinv.keep.output,hinv.keep.size,fun j hj hne=>hinv.keep.block j hj hne⟩
 have hob1:objRel (rho1 b cc) (famH 0 [o2]) (fun j=>X j\/j=b) w' 0 0 o2:=by
  refine io hp hob (by rw[hρ];simp[rho1])
 have hv1:r.rel (rho1 b cc) (famH 0 [o2]) (fun j=>X j\/j=b) w' v:=j6 hr v2
 rcases hee with rfl|rfl
 ·exact⟨h1,v,v1,v,rfl,hbut,hob1,hv1⟩
 ·exact⟨h1,v,v1,v,rfl,hbut,hob1,hv1⟩
end
section
def iZ:TV->Bool
 | .one (.p _)=>true
 | .agg cs=>cs.all isPure
 |_=>false
theorem ve {ρ ρ':eZ} {H H':OH} {Y Y':Nat->Prop} {w:World} {t:TV} {v:Value} (hY:Y'=Y) (hn:iZ t=true) (h:t.rel ρ H Y w v):t.rel ρ' H' Y' w v:=by
 subst hY
 refine j6 ?_ h
 unfold iZ at hn
 split at hn
 ·rfl
 ·rename_i cs
  simp only[noRefTV,List.all_eq_true]at hn⊢
  intro x hx
  have:=hn x hx
  cases x<;>first|rfl|cases this
 ·cases hn
def lX (k:Nat):Nat->List TV->Bool
 |_,[]=>true
 |i,t::l=>(i==k||iZ t)&&lX k (i+1) l
theorem oQ {k:Nat}: ∀{l:List TV} {i j:Nat} {t:TV},lX k i l=true->i+j≠k->l[j]?=some t->iZ t=true
 |[],_,_,_,_,_,h=>by simp at h
 |u::l,i,0,t,h,hj,ht=>by
  simp at ht
  subst ht
  simp only[lX,Bool.and_eq_true,Bool.or_eq_true,beq_iff_eq]at h
  exact h.1.resolve_left (fun e=>hj (by rw[e,Nat.add_zero]))
 |u::l,i,j+1,t,h,hj,ht=>by
  simp only[lX,Bool.and_eq_true]at h
  exact oQ (i:=i+1) (j:=j) h.2 (by omega) (by simpa using ht)
theorem kw {k:Nat} {args:List TV} (h:lX k 0 args=true): ∀(j:Nat) t,j≠k->args[j]?=some t->iZ t=true:=fun j t hj ht=>oQ (i:=0) (j:=j) h (by omega) ht
theorem dX {α:Type} (f:α->List PV) (l:List α): ∀e∈lc f l,∀x∈e,isPure x=true:=fun e he x hx=>by
 simp only[lc,List.mem_map]at he
 obtain⟨y,_,rfl⟩:=he
 simp only[List.mem_map]at hx
 obtain⟨z,_,rfl⟩:=hx
 rfl
theorem rQ (F:List OObj):Hm [(0,F)]=famH 0 F:=by funext x;simp[Hm,famH]
section
variable {P:Program} {s:AS} {a:Act} {w0 w:World} {O X:Nat->Prop}
theorem zV (hrel:fM w0 O X s a w) {o:Oper} {c:Call} {f:FuncId} (ho:o.op= .call c) (hcal:c.callee= .value (.func f)) {args:List TV} {k off len fa fr:Nat} {o0 o':OObj} {r:TV} (hcon:mR P f args k off len o0 o' r) (hk:k<args.length) (hlen:0<len)
  (hev:aQ s.ev c.args.toList=some (args.set k (.one (.sl fa fr off len)))) (hpure: ∀(j:Nat) t,j≠k->args[j]?=some t->iZ t=true) (hrow:(s.H fa)[fr]?=some o0) (hop: ∀e∈o0.elems,∀x∈e,isPure x=true) {K:Act->World->Prop} {Q:Exit->Act->World->Prop}
  (hK: ∀v w',fM w0 O X (AS.put ⟨s.tmps,au s.H fa ((s.H fa).set fr o')⟩ o.dst r) (a.put o.dst v) w'->K (a.put o.dst v) w'):o.wp P a w K Q:=by
 obtain⟨h1,hsz,ρ,hinv,htm⟩:=hrel
 have htm:cn X ρ s a w:=htm
 obtain⟨e1,e2⟩:=d5 hev
 have hk1:(args.set k (.one (.sl fa fr off len)))[k]?=some (.one (.sl fa fr off len)):=List.getElem?_set_self hk
 obtain⟨x,hx,hxt⟩:=e2 k _ hk1
 obtain⟨o1,g1,g2,g3⟩:=dD htm x _ hxt
 rw[hrow]at g1
 injection g1 with g1
 subst g1
 obtain⟨b,cc,hρ,hv⟩: ∃b cc,ρ fa fr=some (b,cc)/\a.eval x= .slice (some ⟨b,off*o0.es,none⟩) len (cc-off):=by
  rcases g3 with⟨_,_,g4,_⟩|g3
  ·omega
  ·exact g3
 have hob:=hinv.objs fa fr o0 hrow
 have hXb:Xo X ρ s.H b:= .inr ⟨fa,fr,o0,cc,hrow,hρ⟩
 have hset:(fun j=>(Xo X ρ s.H j/\j≠b)\/j=b)=Xo X ρ s.H:=by
  funext j
  apply propext
  constructor
  ·rintro(h|rfl)
   ·exact h.1
   ·exact hXb
  ·intro h
   by_cases hj:j=b
   ·exact .inr hj
   ·exact .inl ⟨h,hj⟩
 have hXlt: ∀j,Xo X ρ s.H j->j<w.heap.size:=fun b hb=>by
  rcases hb with hb|⟨x,y,o',n,g1,g2⟩
  ·exact hinv.bar b hb
  ·exact cK (hinv.objs x y o' g1) g2
 have hrun:=o5 (w:=w) ho hcal (e:=a.eval) rfl hcon.able
 unfold Oper.wp
 rw[hrun]
 simp only[Oper.upon]
 have hsize:c.args.size=args.length:=by simpa using e1.symm
 refine(hcon.calls (fun j=>Xo X ρ s.H j/\j≠b) w (c.args.map a.eval) b cc (fun j hj=>hXlt j hj.1) (fun h=>h.2 rfl) ?_ (by simp[hsize]) ?_ ?_).mono ?_
 ·rw[hset]
  exact io hop hob (by simp[rho1,hρ])
 ·rw[Array.getElem?_map]
  have:c.args[k]?=some x:=by simpa using hx
  rw[this]
  exact congrArg some hv
 ·intro j t hj ht
  rw[hset]
  have ht2:(args.set k (.one (.sl fa fr off len)))[j]?=some t:=by rw[List.getElem?_set_ne (Ne.symm hj)];exact ht
  obtain⟨y,hy,hyt⟩:=e2 j t ht2
  refine⟨a.eval y,?_,ve rfl (hpure j t hj ht) (dD htm y t hyt)⟩
  rw[Array.getElem?_map]
  have:c.args[j]?=some y:=by simpa using hy
  rw[this];rfl
 ·rintro e w1 ⟨v,rfl,hbut,hob1,hr1⟩
  show K (a.put o.dst v) w1
  refine hK v w1 ?_
  rw[hset]at hob1 hr1
  have hfr:=(List.getElem?_eq_some_iff.1 hrow).1
  have hnew: ∀(x y:Nat) o1,(au s.H fa ((s.H fa).set fr o') x)[y]?=some o1->(x=fa/\y=fr/\o1=o')\/(¬(x=fa/\y=fr)/\(s.H x)[y]?=some o1):=fun x y o1 h=>by
   by_cases hx:x=fa
   ·subst hx
    rw[bV]at h
    by_cases hy:y=fr
    ·subst hy
     rw[List.getElem?_set_self hfr]at h
     injection h with h
     exact .inl ⟨rfl,rfl,h.symm⟩
    ·rw[List.getElem?_set_ne (Ne.symm hy)]at h
     exact .inr ⟨fun h=>hy h.2,h⟩
   ·rw[bv hx]at h
    exact .inr ⟨fun h=>hx h.1,h⟩
  have hlive: ∀(x y:Nat) o1,(s.H x)[y]?=some o1-> ∃o2,(au s.H fa ((s.H fa).set fr o') x)[y]?=some o2/\o2.es=o1.es/\o1.elems.length<=o2.elems.length/\ρ x y=ρ x y:=fun x y o1 h=>by
   by_cases hx:x=fa
   ·subst hx
    by_cases hy:y=fr
    ·subst hy
     rw[hrow]at h
     injection h with h
     subst h
     exact⟨o',by rw[bV,List.getElem?_set_self hfr],hcon.es,by rw[hcon.size];exact Nat.le_refl _,rfl⟩
    ·exact⟨o1,by rw[bV,List.getElem?_set_ne (Ne.symm hy)];exact h,rfl,Nat.le_refl _,rfl⟩
   ·exact⟨o1,by rw[bv hx];exact h,rfl,Nat.le_refl _,rfl⟩
  have hback: ∀(x y:Nat) o1,(au s.H fa ((s.H fa).set fr o') x)[y]?=some o1-> ∃o2,(s.H x)[y]?=some o2:=fun x y o1 h=>by
   rcases hnew x y o1 h with⟨rfl,rfl,_⟩|⟨_,h⟩
   ·exact⟨o0,hrow⟩
   ·exact⟨o1,h⟩
  have hXo:Xo X ρ (au s.H fa ((s.H fa).set fr o'))=Xo X ρ s.H:=by
   funext j
   apply propext
   constructor
   ·rintro(h|⟨x,y,o1,n,h1,h2⟩)
    ·exact .inl h
    ·obtain⟨o2,h3⟩:=hback x y o1 h1
     exact .inr ⟨x,y,o2,n,h3,h2⟩
   ·rintro(h|⟨x,y,o1,n,h1,h2⟩)
    ·exact .inl h
    ·obtain⟨o2,h3,_⟩:=hlive x y o1 h1
     exact .inr ⟨x,y,o2,n,h3,h2⟩
  have mono: ∀x u,AV.rel ρ s.H (Xo X ρ s.H) w x u->AV.rel ρ (au s.H fa ((s.H fa).set fr o')) (Xo X ρ (au s.H fa ((s.H fa).set fr o'))) w1 x u:=fun x u hx=>
   iO hXb hbut hlive (fun x y o1 b' c' h1 h2 _=>by
    obtain⟨o2,h3⟩:=hback x y o1 h1
    exact .inr ⟨x,y,o2,c',h3,h2⟩) hx
  have hinv':gU w0 O X (au s.H fa ((s.H fa).set fr o')) ρ w1:=by
   refine⟨hinv.keep.but hbut (hinv.old fa fr o0 b cc hrow hρ).1,fun x y o1 h=>?_,fun x y x' y' o1 o2 j c1 c2 h h' q q'=>?_,fun x y o1 j c1 h q=>?_,fun j hj=>Nat.lt_of_lt_of_le (hinv.bar j hj) hbut.size,fun x y o1 h=>?_⟩
   ·rcases hnew x y o1 h with⟨rfl,rfl,rfl⟩|⟨hne,h⟩
    ·rw[hXo]
     exact io hcon.pure hob1 (by simp[rho1,hρ])
    ·refine dV (hinv.objs x y o1 h) rfl (fun j c1 hj=>?_) mono
     refine hbut.block j (cK (hinv.objs x y o1 h) hj) ?_
     rintro rfl
     exact hne (hinv.inj x y fa fr o1 o0 j c1 cc h hrow hj hρ)
   ·obtain⟨o3,h3⟩:=hback x y o1 h
    obtain⟨o4,h4⟩:=hback x' y' o2 h'
    exact hinv.inj x y x' y' o3 o4 j c1 c2 h3 h4 q q'
   ·obtain⟨o3,h3⟩:=hback x y o1 h
    exact hinv.old x y o3 j c1 h3 q
   ·rcases hnew x y o1 h with⟨rfl,rfl,rfl⟩|⟨hne,h⟩
    ·exact dx hcon.pure
    ·exact hinv.self x y o1 h
  have htm':cn X ρ ⟨s.tmps,au s.H fa ((s.H fa).set fr o')⟩ a w1:=fun t x hx=>by
   obtain⟨u,u1,u2⟩:=htm t x hx
   exact⟨u,u1,TV.rel_map u2 mono⟩
  refine⟨by rw[gX];exact h1,by rw[jN,er];exact hsz,ρ,by rw[gZ];exact hinv',pc hsz htm' ?_⟩
  show r.rel ρ (au s.H fa ((s.H fa).set fr o')) (Xo X ρ (au s.H fa ((s.H fa).set fr o'))) w1 v
  rw[hXo]
  exact j6 hcon.noref hr1
def cwTs (ops:Array Oper) (m:Nat) (s:AS):Option (FuncId×List TV):=match ops[m]? with
 |some o=>match o.guard,o.op with
  |none,.call c=>match c.callee with
   | .value (.func f)=>match aQ s.ev c.args.toList with
    |some ts=>some (f,ts)
    |none=>none
   |_=>none
  |_,_=>none
 |none=>none
def CM (ops:Array Oper) (m:Nat):Option Tmp:=(ops[m]?).bind (·.dst)
def yO (ops:Array Oper) (m:Nat) (r:TV) (fa fr:Nat) (o':OObj) (s:AS):AS:=AS.put ⟨s.tmps,au s.H fa ((s.H fa).set fr o')⟩ (CM ops m) r
structure En (ops:Array Oper) (m:Nat) (f:FuncId) (args:List TV) (k off len fa fr:Nat) (o0:OObj) (s:AS):Prop where
 ts:cwTs ops m s=some (f,args.set k (.one (.sl fa fr off len)))
 row:(s.H fa)[fr]?=some o0
theorem qo (m:Nat) {f:FuncId} {args:List TV} {k off len:Nat} {o0 o':OObj} {r:TV} (hcon:mR P f args k off len o0 o' r) (fa fr:Nat) (items:List (ar P)) (ow:List Nat) {id:Nat} {ops:Array Oper} {Q:Exit->AS->Prop} (hk:k<args.length) (hlen:0<len) (hpure: ∀(j:Nat) t,j≠k->args[j]?=some t->iZ t=true) (hop: ∀e∈o0.elems,∀x∈e,isPure x=true) (hl:s.tmps.length<=1000000) (hm:m<ops.toList.length)
  (h:dS P (items.map ar.a) ow (cY ops (ops.toList.take m) 0) (some s) (fun s1=>En ops m f args k off len fa fr o0 s1/\s1.tmps.length<=1000000/\dS P (items.map ar.a) ow (cY ops (ops.toList.drop (m+1)) (m+1)) (some (yO ops m r fa fr o' s1)) (Q .normal))):bX P (.region id ops false) Q s:=fun w0 O X a w r0=>by
 obtain⟨s1,h1,⟨q1,q2⟩,hl1,h2⟩:=dw P (items.map ar.a) ow ops _ 0 s _ hl h
 obtain⟨s',h3,h4⟩:=dw P (items.map ar.a) ow ops _ (m+1) _ _ (by unfold yO;rw[er];exact hl1) h2
 obtain⟨o,ho⟩: ∃o,ops[m]?=some o:=⟨ops[m],by simp at hm;simp[hm]⟩
 unfold cwTs at q1
 rw[ho]at q1
 simp only at q1
 split at q1
 ·rename_i c hg hop1
  split at q1
  ·rename_i f' hcal
   split at q1
   ·rename_i ts hts
    injection q1 with q1
    injection q1 with q1 q3
    subst q1 q3
    refine wp_region ?_
    have hsz:ops.size=(ops.toList.take m).length+(1+(ops.toList.drop (m+1)).length):=by simp at hm⊢;omega
    rw[hsz,List.range_eq_range',<- List.range'_append_1,Nat.zero_add]
    have hml:(ops.toList.take m).length=m:=by rw[List.length_take];omega
    refine oJ (ar.ok items) (ops.toList.take m) 0 s s1 a w (fun j o hj=>?_) h1 r0 fun a' w' r'=>?_
    ·rw[List.getElem?_take]at hj
     split at hj
     ·simpa using hj
     ·cases hj
    ·rw[hml,Nat.add_comm 1,List.range'_succ]
     simp only[wpOps,ho]
     rw[if_pos (by simp[Region.wanted,hg])]
     refine .inl (zV r' hop1 hcal hcon hk hlen hts hpure q2 hop fun v w1 hr1=>?_)
     refine jb (ar.ok items) (Q:=fun e a' w'=> ∃s',Q e s'/\fM w0 O X s' a' w') (ops.toList.drop (m+1)) (m+1) _ s' _ _ (fun j o hj=>?_) h3 ?_ (fun a' w' hr=>⟨s',h4,hr⟩)
     ·rw[List.getElem?_drop]at hj
      simpa using hj
     ·have:CM ops m=o.dst:=by unfold CM;rw[ho];rfl
      unfold yO
      rw[this]
      exact hr1
   ·cases q1
  ·cases q1
 ·cases q1
theorem pk (m:Nat) {f:FuncId} {args:List TV} {k off len:Nat} {o0 o':OObj} {r:TV} (hcon:mR P f args k off len o0 o' r) (fa fr:Nat) (items:List (ar P)) (ow:List Nat) {id:Nat} {ops:Array Oper} {y:Code} {Q:Exit->AS->Prop} (hk:k<args.length) (hlen:0<len) (hpure: ∀(j:Nat) t,j≠k->args[j]?=some t->iZ t=true) (hop: ∀e∈o0.elems,∀x∈e,isPure x=true) (hl:s.tmps.length<=1000000) (hm:m<ops.toList.length)
  (h: ∀K:AS->Prop,(∀s1,(En ops m f args k off len fa fr o0 s1/\s1.tmps.length<=1000000/\ ∀K:AS->Prop,(∀s',bX P y Q s'->K s')->dS P (items.map ar.a) ow (cY ops (ops.toList.drop (m+1)) (m+1)) (some (yO ops m r fa fr o' s1)) K)->K s1)->dS P (items.map ar.a) ow (cY ops (ops.toList.take m) 0) (some s) K):bX P (.seq (.region id ops false) y) Q s:=
 ae (qo m hcon fa fr items ow hk hlen hpure hop hl hm (h _ fun s1 ⟨q1,q2,q3⟩=>⟨q1,q2,q3 _ fun _ h=>h⟩))
theorem vF (m:Nat) {f:FuncId} {args:List TV} {k off len:Nat} {o0 o':OObj} {r:TV} (hcon:mR P f args k off len o0 o' r) (fa fr:Nat) (items:List (ar P)) (ow:List Nat) {id:Nat} {ops:Array Oper} {Q:Exit->AS->Prop} (hk:k<args.length) (hlen:0<len) (hpure: ∀(j:Nat) t,j≠k->args[j]?=some t->iZ t=true) (hop: ∀e∈o0.elems,∀x∈e,isPure x=true) (hl:s.tmps.length<=1000000) (hm:m<ops.toList.length)
  (h: ∀K:AS->Prop,(∀s1,(En ops m f args k off len fa fr o0 s1/\s1.tmps.length<=1000000/\ ∀K:AS->Prop,(∀s',Q .normal s'->K s')->dS P (items.map ar.a) ow (cY ops (ops.toList.drop (m+1)) (m+1)) (some (yO ops m r fa fr o' s1)) K)->K s1)->dS P (items.map ar.a) ow (cY ops (ops.toList.take m) 0) (some s) K):bX P (.region id ops false) Q s:=
 qo m hcon fa fr items ow hk hlen hpure hop hl hm (h _ fun s1 ⟨q1,q2,q3⟩=>⟨q1,q2,q3 _ fun _ h=>h⟩)
end
end
end Go.Proofs.YtpgghglbpcabkaaGreat
