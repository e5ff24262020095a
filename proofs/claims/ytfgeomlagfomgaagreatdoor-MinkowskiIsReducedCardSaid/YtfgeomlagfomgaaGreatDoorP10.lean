/-
  Part 11 of a proof (walks and plain facts).
-/
import Derived.Test.YtfgeomlagfomgaaGreatDoorP09
set_option linter.all false
set_option maxRecDepth 100000
set_option maxHeartbeats 64000000
open Nat renaming reduceAdd → aa
open Go.Value renaming oneCell' → ab
open List renaming find?_cons → ac
open Go.Proofs.YtfgeomlagfomgaaGreatDoor.CallRes renaming plain → ae
open List renaming getElem?_cons_zero → ag
open List renaming getElem?_cons_succ → ah
open Nat renaming le_refl → ai
open List renaming replicate → aj
open Bool renaming not_false → an
open Nat renaming le_trans → aI
open Nat renaming mul_le_mul_left → aJ
namespace Go.Proofs.YtfgeomlagfomgaaGreatDoor
open Go.RowKit
theorem IQ (k:Nat):Sz 0 k:=by unfold Sz;exact Nat.pow_pos (by omega)
theorem KF {n p k b:Nat} {g:Nat->Nat->Int} (hp:p<n) (hk:k<n) (h: ∀i j,i<n->j<n->Sz (g i j) b): ∀i j,i<n->j<n->Sz (swp p k g i j) b:=fun i j hi hj=>by
 unfold swp
 split
 ·exact h k j hk hj
 split
 ·exact h p j hp hj
 exact h i j hi hj
theorem Kh {n k b:Nat} {g:Nat->Nat->Int} (last:Int) (hk:k<n) (h: ∀i j,i<n->j<n->Sz (g i j) b): ∀i j,i<n->j<n->Sz (Je k last g i j) (2*b+1):=fun x y hx hy=>by
 unfold Je
 split
 ·exact((((h k k hk hk).mul (h x y hx hy)).sub ((h x k hx hk).mul (h k y hk hy))).ediv last).mono (by omega)
 exact(h x y hx hy).mono (by omega)
theorem AI {n:Nat} (hn:n<=16): ∀m k g last neg b,n-k=m->k<=n->(∀i j,i<n->j<n->Sz (g i j) b)->Sz last b->b+1<=1025*2^k->Sz (detG n k g last neg) 67174400
 |0,k,g,last,neg,b,hm,hk,hg,hl,hb=>by
  have h2k:=lB (k:=k) (by omega)
  rw[detG,if_neg (by omega)]
  split
  ·exact hl.neg.mono (by omega)
  exact hl.mono (by omega)
 |m+1,k,g,last,neg,b,hm,hk,hg,hl,hb=>by
  rw[detG,if_pos (by omega)]
  split
  ·exact IQ _
  rename_i hp
  have hpl:=zM (f:=g) (n:=n) (k:=k) (n-k) k rfl
  have hs:=KF (p:=piv g n k k) (k:=k) (by omega) (by omega) hg
  exact AI hn m (k+1) _ _ _ (2*b+1) (by omega) (by omega) (Kh last (by omega) hs) ((hs k k (by omega) (by omega)).mono (by omega)) (by rw[Nat.pow_succ];omega)
theorem He {n:Nat} {f:Nat->Nat->Int} (hn:n<=16) (hf: ∀i j,i<n->j<n->Sz (f i j) 1024):Sz (detF n f) 67174400:=
 AI hn n 0 f 1 false 1024 rfl (by omega) hf (wv (by omega)) (by omega)
theorem oS {n c:Nat} (f:Nat->Nat->Int) (h:1<=n):((dC n c f).headD []).length=c:=by
 have:=mG (M:=dC n c f) (by rw[cT];omega)
 rw[dm _ _ (by omega)]at this
 injection this with this
 rw[<- this,dj]
theorem Bf {n c:Nat} (f:Nat->Nat->Int) (hn1:1<=n) (hn:n<=16) (hc1:1<=c) (hc:c<=16):Ap (dC n c f):=by
 refine⟨by rw[cT];omega,by rw[cT];omega,fun r hr=>?_⟩
 obtain⟨i,hi⟩:=List.mem_iff_getElem?.1 hr
 have hin:i<n:=by
  have:=(List.getElem?_eq_some_iff.1 hi).1
  rwa[cT]at this
 rw[dm _ _ hin]at hi
 injection hi with hi
 rw[<- hi,rOk,dj,oS f hn1]
 omega
theorem GH {M:List (List Int)} (h:Ap M):M=dC M.length (M.headD []).length (ent M):=qL fun r hr=>(h.2.2 r hr).2.2
theorem BC {n:Nat} (f:Nat->Nat->Int) (hn1:1<=n) (hn:n<=16):Jl (dC n n f)= .tup [(false,[.p (.raw (.int .i64 (n:Int)))]),(false,[.p (.raw (.bool true))])]:=by
 have h:Ls (dC n n f):=⟨Bf f hn1 hn hn1 hn,by rw[cT,oS f hn1]⟩
 unfold Jl;rw[if_pos h,cT]
theorem Kz {n c:Nat} (f:Nat->Nat->Int) (hn1:1<=n) (h:n≠c):Jl (dC n c f)= .tup [(false,[.p (.raw (.int .i64 0))]),(false,[.p (.raw (.bool false))])]:=by
 unfold Jl;rw[if_neg]
 intro hs
 have:=hs.2
 rw[cT,oS f hn1]at this
 exact h this
abbrev Gx (n:Nat) (f:Nat->Nat->Int):List Int:=dz n fun k=>detF (k+1) f
def LT (n:Nat) (f:Nat->Nat->Int):TV:= .tup [(false,[.p (.sl (ls fZ (Gx n f)))]),(false,[.p (.raw (.bool true))])]
theorem FL (k:Nat) (f:Nat->Nat->Int):((List.range (k+1)).map fun i=>(List.range (k+1)).map (f i))=dC (k+1) (k+1) f:=rfl
theorem BX (n:Nat) (f:Nat->Nat->Int) (hn1:1<=n) (hn:n<=16) (hf: ∀i j,i<n->j<n->Sz (f i j) 1024):CallC Tryz.prog 103 [eF (dC n n f)] ⟨[],LT n f⟩:=by
 have hSq:=wG (dC n n f)
 rw[BC f hn1 hn]at hSq
 refine bG Tryz.func103 rfl (by kernel_rfl) ?_;rw[Tryz.ntmps103]
 (refine aL [] fun K hK=>?_;simp(disch:=omega) only[kc,aM,eF,aj,aN,ab];apply hK)
 (refine aL [⟨1,_,_,_,hSq⟩] fun K hK=>?_;simp(disch:=omega) only[kc,eF,bj.a,aM,aa,aY,bU,bI,ac,bO,cq,ae,bV,bW,bs,noRefTV,bf,bQ,bM,cK,aU];apply hK)
 (refine aP (aL [] fun K hK=>?_);simp(disch:=omega) only[kc,aM,dM,aU,fD];apply hK)
 refine bL rfl (bi ?_)
 show da _ _ _ _
 (refine aL [] fun K hK=>?_;simp(disch:=omega) only[kc,aM,aN,ab];apply hK)
 (refine aP (aL [] fun K hK=>?_);simp(disch:=omega) only[kc,aM,aN,ab];apply hK)
 refine cC (G:=ov n) (fun g=>⟨[eF (dC n n f),jk,.raw (.slice none 0 0),.raw (.bool false),.raw (.int .i64 (n:Int)),jk,.one (.sl 31 0 0 g.i),.raw (.int .i64 (g.i:Int)),jk,jk,jk,jk,jk,jk,jk,jk,jk,jk,jk,jk,jk,jk,jk,jk,jk,jk,jk,jk,jk,jk,jk,jk,jk],Hm [(31,[⟨42,2,lc fZ (Gx g.i f)⟩])]⟩) (fun g=>n-g.i) ⟨0,by omega⟩ ?_ ?_
 ·refine(iz (k:=6) (d:=31) 42 2 (by omega) rfl rfl).trans (aT ⟨rfl,trivial⟩ ?_)
  simp[di,b9,b8]
 rintro⟨k,hk⟩
 simp only
 by_cases hm:k<n
 ·have c1:=Hl k k (by omega) (by omega)
  rw[<- List.range_succ]at c1
  have c2:=DD n n f (List.range (k+1)) (List.range (k+1)) hn hn (fun x hx=>by have:=List.mem_range.1 hx;omega) (fun x hx=>by have:=List.mem_range.1 hx;omega) (by simp;omega) (by simp;omega)
  rw[FL]at c2
  have c3:=tc (k+1) f (by omega) (by omega) (fun i j hi hj=>hf i j (by omega) (by omega))
  have e1:lc fZ (Gx k f)++[[.p (.raw (.bool (decide (detF (k+1) f<0)))),.p (.sl (ls fU (bT (detF (k+1) f).natAbs)))]]=lc fZ (Gx (k+1) f):=by
   rw[r6,Gx,Gx,pY k]
  (refine aP (aL [] fun K hK=>?_);simp(disch:=omega) only[kc,aM,aa,eF,Hm,aU,aO,aR,aX,aS,cw];apply hK)
  refine bJ rfl (bi ?_)
  refine aP (bA ?_)
  ((refine bK [⟨4,_,_,_,c1⟩,⟨7,_,_,_,c1⟩,⟨8,_,_,_,c2⟩,⟨9,_,_,_,c3⟩] [] (by simp) fun K hK=>?_);simp(disch:=omega) only[kc,tE,eF,tZ,bj.a,aM,aa,aY,bU,bI,ac,bO,cq,ae,bV,bW,bs,noRefTV,bf,bQ,bM,Nat.reduceBEq,cX,cE,cx,bS,gU,cellsOf,isPure,Nat.reduceMul,Nat.reduceLeDiff,List.contains_nil,lI,cQ,dX,kG,cU,eo,kC,eW,gE,dj,fW,gI,and_true,fq,f4,e1,ew,bz,bx];apply hK)
  show da _ _ _ _
  ((refine bK [] [] (by simp) fun K hK=>?_);simp(disch:=omega) only[kc,aM,aa,aU,aO,aR,aX,aN,ab,aS,cd];apply hK)
  refine⟨⟨k+1,by omega⟩,by simp only;omega,aT ⟨rfl,trivial⟩ ?_⟩
  simp[di,b9,b8]
 have hkn:k=n:=by omega
 subst hkn
 (refine aP (aL [] fun K hK=>?_);simp(disch:=omega) only[kc,aM,aa,eF,Hm,aU,aO,aR,aX,aS,cp];apply hK)
 refine bL rfl (ck ?_)
 show da _ _ _ _
 (refine aL [] fun K hK=>?_;simp(disch:=omega) only[kc,aM,aa,aN,ab];apply hK)
 refine bC ⟨.inr rfl,kQ 31 (eE rfl) ?_ rfl⟩
 have eT:List.take k (Gx k f)=Gx k f:=List.take_of_length_le (by rw[dj];omega)
 simp(disch:=omega) only[kc,cH,Tryz.results103,eP,bH,gT,gh,cQ,eB,eT,eZ,dF,LT]
structure L3 (n:Nat) (f:Nat->Nat->Int) where
 i:Nat
 hi:i<=n
 ok: ∀a,a<i-> ∀b,b<a->f a b=f b a
structure L4 (n i:Nat) (f:Nat->Nat->Int) where
 j:Nat
 hj:j<=i
 ok: ∀b,b<j->f i b=f b i
theorem tY (a:Int):th a a=0:=by simp[th]
theorem w9 {a b:Int} (h:a≠b):th a b≠0:=by unfold th;split<;>(try split)<;>omega
theorem mu (n:Nat) (f:Nat->Nat->Int) (hn:n<=16) (hf: ∀i j,i<n->j<n->Sz (f i j) 1024) (r:Bool) (hr:r=true↔SymF f n):CallC Tryz.prog 79 [eF (dC n n f)] ⟨[],.raw (.bool r)⟩:=by
 have hml:=cT n n f
 refine bG Tryz.func79 rfl (by kernel_rfl) ?_;rw[Tryz.ntmps79]
 (refine aL [] fun K hK=>?_;simp(disch:=omega) only[kc,aM,eF,aj,aN,ab];apply hK)
 (refine aP (aL [] fun K hK=>?_);simp(disch:=omega) only[kc,aM,aa,be,aZ,cb,bE,hml,aN,ab];apply hK)
 refine cC (G:=L3 n f) (fun g=>⟨[eF (dC n n f),jk,.raw (.bool false),jk,jk,jk,.raw (.int .i64 (n:Int)),.raw (.int .i64 (g.i:Int)),jk,jk,jk,jk,jk,jk,jk,jk,jk,jk,jk,jk,jk,jk,jk,jk,jk,jk,jk,jk,jk,jk,jk,jk],Hm []⟩) (fun g=>n-g.i) ⟨0,by omega,fun a ha=>by omega⟩ ?_ ?_
 ·refine aT trivial ?_
  simp[di,b9,b8]
 rintro⟨i,hi,ok⟩
 simp only
 by_cases hm:i<n
 ·(refine aL [] fun K hK=>?_;simp(disch:=omega) only[kc,aM,eF,Hm,aU,aO,aR,aX,aS,cw];apply hK)
  refine aP (bJ rfl (bi ?_))
  refine aP (bA ?_)
  (refine aL [] fun K hK=>?_;simp(disch:=omega) only[kc,aM];apply hK)
  (refine aL [] fun K hK=>?_;simp(disch:=omega) only[kc,aM,aN,ab];apply hK)
  refine cC (G:=L4 n i f) (fun g=>⟨[eF (dC n n f),jk,.raw (.bool false),.raw (.int .i64 (i:Int)),.raw (.int .i64 (g.j:Int)),jk,.raw (.int .i64 (n:Int)),.raw (.int .i64 (i:Int)),jk,jk,jk,jk,jk,jk,jk,jk,jk,jk,jk,jk,jk,jk,jk,jk,jk,jk,jk,jk,jk,jk,jk,jk],Hm []⟩) (fun g=>i-g.j) ⟨0,by omega,fun a ha=>by omega⟩ ?_ ?_
  ·refine aT trivial ?_
   simp[di,b9,b8]
  rintro⟨j,hj,okj⟩
  simp only
  by_cases hm2:j<i
  ·have a1:=dm n f hm
   have a2:=dm n f (show j<n by omega)
   have a3:=cu (f i) (show j<n by omega)
   have a4:=cu (f j) hm
   have c1:=KU (f i j) (f j i) ((hf i j hm (by omega)).mono (by omega)) ((hf j i (by omega) hm).mono (by omega))
   by_cases he:f i j=f j i
   ·rw[he,tY]at c1
    rw[he]at a3
    (refine aP (aL [] fun K hK=>?_);simp(disch:=omega) only[kc,aM,aa,eF,Hm,aU,aO,aR,aX,aS,cw];apply hK)
    refine bJ rfl (bi ?_)
    refine aP (bA ?_)
    (refine cL cJ [⟨14,_,_,_,c1⟩] [] (by kernel_rfl) (by simp) fun K hK=>?_;simp(disch:=omega) only[kc,tZ,bj.a,aM,aa,aQ,aZ,aW,cb,ch,a1,fR,dy,packT,dD,cE,a3,fZ,bS,cf,ai,a2,a4,aY,bU,bI,ac,bO,cq,ae,bV,bW,bs,isPure,noRefTV,bf,bQ,bM,aU,aO,aR,aX,aN,ab,aS,cw];apply hK)
    refine bL rfl (bi ?_)
    show da _ _ _ _
    ((refine bK [] [] (by simp) fun K hK=>?_);simp(disch:=omega) only[kc,aM,aa,aU,aO,aR,aX,aN,ab,aS,cd];apply hK)
    refine⟨⟨j+1,by omega,fun b hb=>?_⟩,by simp only;omega,aT trivial ?_⟩
    ·by_cases e:b=j
     ·subst e;exact he
     exact okj b (by omega)
    simp[di,b9,b8]
   have hr0:r=false:=by
    cases r with
    |false=>rfl
    |true=>exact absurd (hr.1 rfl i hm j (by omega)) he
   subst hr0
   have hne:=w9 he
   (refine aP (aL [] fun K hK=>?_);simp(disch:=omega) only[kc,aM,aa,eF,Hm,aU,aO,aR,aX,aS,cw];apply hK)
   refine bJ rfl (bi ?_)
   refine aP (bA ?_)
   (refine cL cJ [⟨14,_,_,_,c1⟩] [] (by kernel_rfl) (by simp) fun K hK=>?_;simp(disch:=omega) only[kc,tZ,bj.a,aM,aa,aQ,aZ,aW,cb,ch,a1,fR,dy,packT,dD,cE,a3,fZ,bS,cf,ai,a2,a4,aY,bU,bI,ac,bO,cq,ae,bV,bW,bs,isPure,noRefTV,bf,bQ,bM,aU,aO,aR,aX,aN,ab,aS,cp,an];apply hK)
   refine bJ rfl ?_
   (refine aL [] fun K hK=>?_;simp(disch:=omega) only[kc,aM,aN,ab];apply hK)
   (refine bC ⟨.inr rfl,bF rfl ?_ rfl⟩;simp(disch:=omega) only[cH,Tryz.results79,bH,ah,ag])
  (refine aP (aL [] fun K hK=>?_);simp(disch:=omega) only[kc,aM,aa,eF,Hm,aU,aO,aR,aX,aS,cp];apply hK)
  refine bL rfl (ck ?_)
  show da _ _ _ _
  ((refine bK [] [] (by simp) fun K hK=>?_);simp(disch:=omega) only[kc,aM,aU,aO,aR,aX,aN,ab,aS,cd];apply hK)
  refine⟨⟨i+1,by omega,fun a ha b hb=>?_⟩,by simp only;omega,aT trivial ?_⟩
  ·by_cases e:a=i
   ·subst e;exact okj b (by omega)
   exact ok a (by omega) b hb
  simp[di,b9,b8]
 have hr1:r=true:=hr.2 fun a ha b hb=>by
  rcases Nat.lt_trichotomy a b with h|h|h
  ·exact(ok b (by omega) a h).symm
  ·rw[h]
  exact ok a (by omega) b h
 subst hr1
 (refine aL [] fun K hK=>?_;simp(disch:=omega) only[kc,aM,eF,Hm,aU,aO,aR,aX,aS,cp];apply hK)
 refine aP (bL rfl (ck ?_))
 show da _ _ _ _
 (refine aL [] fun K hK=>?_;simp(disch:=omega) only[kc,aM,aN,ab];apply hK)
 (refine bC ⟨.inr rfl,bF rfl ?_ rfl⟩;simp(disch:=omega) only[cH,Tryz.results79,bH,ah,ag])
structure Md (n:Nat) (f:Nat->Nat->Int) where
 i:Nat
 hi:i<=n
 ok: ∀a,a<i->0<detF (a+1) f
theorem FV {z:Int} (h:0<z):sg z=1:=by unfold sg;rw[if_neg (by omega),if_neg (by omega)]
theorem Bw {z:Int} (h: ¬0<z):sg z<=0:=by unfold sg;split<;>(try split)<;>omega
theorem ra (n:Nat) (f:Nat->Nat->Int) (hn1:1<=n) (hn:n<=16) (hf: ∀i j,i<n->j<n->Sz (f i j) 1024) (hs:SymF f n) (r:Bool) (hr:r=true↔BZ f n):CallC Tryz.prog 80 [eF (dC n n f)] ⟨[],.raw (.bool r)⟩:=by
 have hL:=BX n f hn1 hn hf
 have hS:=mu n f hn hf true (by simp[hs])
 refine bG Tryz.func80 rfl (by kernel_rfl) ?_;rw[Tryz.ntmps80]
 (refine aL [] fun K hK=>?_;simp(disch:=omega) only[kc,aM,eF,aj,aN,ab];apply hK)
 (refine aL [⟨1,_,_,_,hL⟩] fun K hK=>?_;simp(disch:=omega) only[kc,eF,LT,bj.a,aM,aa,aY,bU,bI,ac,bO,cq,ae,bV,bW,bs,noRefTV,bf,bQ,bM,cK,aU];apply hK)
 (refine aP (aL [⟨4,_,_,_,hS⟩] fun K hK=>?_);simp(disch:=omega) only[kc,eF,bj.a,aM,aa,dM,aU,fD,bP,aY,bU,bI,ac,bO,cq,ae,bV,bW,bs,noRefTV,bf,bQ,bM,cQ,b7];apply hK)
 refine bL rfl (bi ?_)
 show da _ _ _ _
 (refine aP (aL [] fun K hK=>?_);simp(disch:=omega) only[kc,aM,aa,be,aZ,cE,bE,dj,aN,ab];apply hK)
 refine cC (G:=Md n f) (fun g=>⟨[jk,jk,.raw (.bool false),jk,jk,jk,jk,jk,jk,jk,jk,jk,jk,jk,jk,jk,jk,jk,jk,.one (.p (.sl (ls fZ (Gx n f)))),.raw (.int .i64 (n:Int)),.raw (.int .i64 (g.i:Int)),jk,jk,jk,jk,jk,jk,jk],Hm []⟩) (fun g=>n-g.i) ⟨0,by omega,fun a ha=>by omega⟩ ?_ ?_
 ·refine aT trivial ?_
  simp[di,b9,b8]
 rintro⟨i,hi,ok⟩
 simp only
 by_cases hm:i<n
 ·have a1:(Gx n f)[i]?=some (detF (i+1) f):=cu _ hm
  have hz:=He (n:=i+1) (f:=f) (by omega) (fun a b ha hb=>hf a b (by omega) (by omega))
  have c1:=qb (detF (i+1) f) (hz.mono (by omega))
  (refine aL [] fun K hK=>?_;simp(disch:=omega) only[kc,aM,Hm,aU,aO,aR,aX,aS,cw];apply hK)
  refine aP (bJ rfl (bi ?_))
  refine aP (bA ?_)
  (refine aL [] fun K hK=>?_;simp(disch:=omega) only[kc,aM,aa,aQ,aZ,aW,cE,ch,a1,fZ,bS,packT,cf,ai,cy,bU,bI,cx,ab,cQ,bo,ew,cU,bD,cellsOf,isPure,bu,bz,bx];apply hK)
  by_cases hp:0<detF (i+1) f
  ·rw[FV hp]at c1
   (refine aL [⟨1,_,_,_,c1⟩] fun K hK=>?_;simp(disch:=omega) only[kc,tZ,cp,bj.a,aM,aa,aZ,bD,d4,packT,bS,cf,ai,aY,bU,bI,ac,bO,cq,ae,bV,bW,bs,isPure,noRefTV,bf,bQ,bM,aU,aO,aR,aX,aN,ab,aS,Int.reduceLE,decide_false];apply hK)
   refine bL rfl (bi ?_)
   show da _ _ _ _
   ((refine bK [] [] (by simp) fun K hK=>?_);simp(disch:=omega) only[kc,aM,aU,aO,aR,aX,aN,ab,aS,cd];apply hK)
   refine⟨⟨i+1,by omega,fun a ha=>?_⟩,by simp only;omega,aT trivial ?_⟩
   ·by_cases e:a=i
    ·subst e;exact hp
    exact ok a (by omega)
   simp[di,b9,b8]
  have hr0:r=false:=by
   cases r with
   |false=>rfl
   |true=>exact absurd (hr.1 rfl i hm) hp
  subst hr0
  have hle:=Bw hp
  (refine aL [⟨1,_,_,_,c1⟩] fun K hK=>?_;simp(disch:=omega) only[kc,tZ,bj.a,aM,aa,aZ,bD,d4,packT,bS,cf,ai,aY,bU,bI,ac,bO,cq,ae,bV,bW,bs,isPure,noRefTV,bf,bQ,bM,aU,aO,aR,aX,aN,ab,aS,cw];apply hK)
  refine bJ rfl ?_
  (refine aL [] fun K hK=>?_;simp(disch:=omega) only[kc,aM,aN,ab];apply hK)
  (refine bC ⟨.inr rfl,bF rfl ?_ rfl⟩;simp(disch:=omega) only[cH,Tryz.results80,bH,ah,ag])
 have hr1:r=true:=hr.2 fun a ha=>ok a (by omega)
 subst hr1
 (refine aL [] fun K hK=>?_;simp(disch:=omega) only[kc,aM,Hm,aU,aO,aR,aX,aS,cp];apply hK)
 refine aP (bL rfl (ck ?_))
 show da _ _ _ _
 (refine aL [] fun K hK=>?_;simp(disch:=omega) only[kc,aM,aN,ab];apply hK)
 (refine bC ⟨.inr rfl,bF rfl ?_ rfl⟩;simp(disch:=omega) only[cH,Tryz.results80,bH,ah,ag])
theorem yM (n c:Nat) (f:Nat->Nat->Int) (hn1:1<=n) (hn:n<=16) (hc1:1<=c) (hc:c<=16) (hf: ∀i j,i<n->j<c->Sz (f i j) 1024):
  ∃e:Int,(e=0↔(n=c/\n<=8/\SymF f n/\BZ f n))/\CallC Tryz.prog 38 [eF (dC n c f)] ⟨[],.raw (.int .i64 e)⟩:=by
 have hSq:=wG (dC n c f)
 by_cases h1:n=c
 ·subst h1
  rw[BC f hn1 hn]at hSq
  by_cases h2:8<n
  ·refine⟨3,by omega,?_⟩
   refine bG Tryz.func38 rfl (by kernel_rfl) ?_;rw[Tryz.ntmps38]
   (refine aL [] fun K hK=>?_;simp(disch:=omega) only[kc,aM,eF,aj,aN,ab];apply hK)
   (refine aL [⟨1,_,_,_,hSq⟩] fun K hK=>?_;simp(disch:=omega) only[kc,eF,bj.a,aM,aa,aY,bU,bI,ac,bO,cq,ae,bV,bW,bs,noRefTV,bf,bQ,bM,cK,aU];apply hK)
   refine aP (bA ?_)
   (refine aL [] fun K hK=>?_;simp(disch:=omega) only[kc,aM,aa,dM,aU,fD,bP,aO,aR,aX,aN,ab,cQ,aS,cw,b7];apply hK)
   refine bJ rfl ?_
   (refine aL [] fun K hK=>?_;simp(disch:=omega) only[kc,aM,aN,ab];apply hK)
   (refine bC ⟨.inr rfl,bF rfl ?_ rfl⟩;simp(disch:=omega) only[cH,Tryz.results38,bH,ah,ag])
  by_cases h3:SymF f n
  ·have hS:=mu n f hn hf true (by simp[h3])
   by_cases h4:BZ f n
   ·have hD:=ra n f hn1 hn hf h3 true (by simp[h4])
    refine⟨0,by simp[h3,h4];omega,?_⟩
    refine bG Tryz.func38 rfl (by kernel_rfl) ?_;rw[Tryz.ntmps38]
    (refine aL [] fun K hK=>?_;simp(disch:=omega) only[kc,aM,eF,aj,aN,ab];apply hK)
    (refine aL [⟨1,_,_,_,hSq⟩] fun K hK=>?_;simp(disch:=omega) only[kc,eF,bj.a,aM,aa,aY,bU,bI,ac,bO,cq,ae,bV,bW,bs,noRefTV,bf,bQ,bM,cK,aU];apply hK)
    refine aP (bA ?_)
    (refine aL [] fun K hK=>?_;simp(disch:=omega) only[kc,aM,aa,dM,aU,fD,bP,aO,aR,aX,aN,ab,cQ,aS,cp,b7];apply hK)
    refine bL rfl ?_
    (refine aL [⟨1,_,_,_,hS⟩] fun K hK=>?_;simp(disch:=omega) only[kc,eF,bj.a,aM,aa,aY,bU,bI,ac,bO,cq,ae,bV,bW,bs,noRefTV,bf,bQ,bM,dM,aU,fD];apply hK)
    refine bL rfl ?_
    (refine aL [⟨1,_,_,_,hD⟩] fun K hK=>?_;simp(disch:=omega) only[kc,eF,bj.a,aM,aa,aY,bU,bI,ac,bO,cq,ae,bV,bW,bs,noRefTV,bf,bQ,bM,dM,aU,fD];apply hK)
    refine bL rfl (bi ?_)
    show da _ _ _ _
    (refine aL [] fun K hK=>?_;simp(disch:=omega) only[kc,aM,aN,ab];apply hK)
    (refine bC ⟨.inr rfl,bF rfl ?_ rfl⟩;simp(disch:=omega) only[cH,Tryz.results38,bH,ah,ag])
   have hD:=ra n f hn1 hn hf h3 false (by simp[h4])
   refine⟨5,by simp[h4],?_⟩
   refine bG Tryz.func38 rfl (by kernel_rfl) ?_;rw[Tryz.ntmps38]
   (refine aL [] fun K hK=>?_;simp(disch:=omega) only[kc,aM,eF,aj,aN,ab];apply hK)
   (refine aL [⟨1,_,_,_,hSq⟩] fun K hK=>?_;simp(disch:=omega) only[kc,eF,bj.a,aM,aa,aY,bU,bI,ac,bO,cq,ae,bV,bW,bs,noRefTV,bf,bQ,bM,cK,aU];apply hK)
   refine aP (bA ?_)
   (refine aL [] fun K hK=>?_;simp(disch:=omega) only[kc,aM,aa,dM,aU,fD,bP,aO,aR,aX,aN,ab,cQ,aS,cp,b7];apply hK)
   refine bL rfl ?_
   (refine aL [⟨1,_,_,_,hS⟩] fun K hK=>?_;simp(disch:=omega) only[kc,eF,bj.a,aM,aa,aY,bU,bI,ac,bO,cq,ae,bV,bW,bs,noRefTV,bf,bQ,bM,dM,aU,fD];apply hK)
   refine bL rfl ?_
   (refine aL [⟨1,_,_,_,hD⟩] fun K hK=>?_;simp(disch:=omega) only[kc,eF,bj.a,aM,aa,aY,bU,bI,ac,bO,cq,ae,bV,bW,bs,noRefTV,bf,bQ,bM,dM,aU,fD,an];apply hK)
   refine bJ rfl ?_
   (refine aL [] fun K hK=>?_;simp(disch:=omega) only[kc,aM,aN,ab];apply hK)
   (refine bC ⟨.inr rfl,bF rfl ?_ rfl⟩;simp(disch:=omega) only[cH,Tryz.results38,bH,ah,ag])
  have hS:=mu n f hn hf false (by simp[h3])
  refine⟨4,by simp[h3],?_⟩
  refine bG Tryz.func38 rfl (by kernel_rfl) ?_;rw[Tryz.ntmps38]
  (refine aL [] fun K hK=>?_;simp(disch:=omega) only[kc,aM,eF,aj,aN,ab];apply hK)
  (refine aL [⟨1,_,_,_,hSq⟩] fun K hK=>?_;simp(disch:=omega) only[kc,eF,bj.a,aM,aa,aY,bU,bI,ac,bO,cq,ae,bV,bW,bs,noRefTV,bf,bQ,bM,cK,aU];apply hK)
  refine aP (bA ?_)
  (refine aL [] fun K hK=>?_;simp(disch:=omega) only[kc,aM,aa,dM,aU,fD,bP,aO,aR,aX,aN,ab,cQ,aS,cp,b7];apply hK)
  refine bL rfl ?_
  (refine aL [⟨1,_,_,_,hS⟩] fun K hK=>?_;simp(disch:=omega) only[kc,eF,bj.a,aM,aa,aY,bU,bI,ac,bO,cq,ae,bV,bW,bs,noRefTV,bf,bQ,bM,dM,aU,fD,an];apply hK)
  refine bJ rfl ?_
  (refine aL [] fun K hK=>?_;simp(disch:=omega) only[kc,aM,aN,ab];apply hK)
  (refine bC ⟨.inr rfl,bF rfl ?_ rfl⟩;simp(disch:=omega) only[cH,Tryz.results38,bH,ah,ag])
 rw[Kz f hn1 h1]at hSq
 refine⟨3,by simp[h1],?_⟩
 refine bG Tryz.func38 rfl (by kernel_rfl) ?_;rw[Tryz.ntmps38]
 (refine aL [] fun K hK=>?_;simp(disch:=omega) only[kc,aM,eF,aj,aN,ab];apply hK)
 (refine aL [⟨1,_,_,_,hSq⟩] fun K hK=>?_;simp(disch:=omega) only[kc,eF,bj.a,aM,aa,aY,bU,bI,ac,bO,cq,ae,bV,bW,bs,noRefTV,bf,bQ,bM,cK,aU];apply hK)
 refine aP (bA ?_)
 (refine aL [] fun K hK=>?_;simp(disch:=omega) only[kc,aM,aa,dM,aU,fD,an,bP,reduceCtorEq,aO,aR,aX,aN,ab,cQ,Option.map_none,b7];apply hK)
 refine bJ rfl ?_
 (refine aL [] fun K hK=>?_;simp(disch:=omega) only[kc,aM,aN,ab];apply hK)
 (refine bC ⟨.inr rfl,bF rfl ?_ rfl⟩;simp(disch:=omega) only[cH,Tryz.results38,bH,ah,ag])
def kW (rows:List (List Int)) (x:List Int):Bool:=dO rows&&FitB rows.length x
theorem qh (A B:Option Addr) (c d:Nat) (rows:List (List Int)) (x:List Int) (w:World) (hR:pB .i64 w A rows) (hx:RdI .i64 w B x) (lr:rows.length<=9223372036854775807) (hc:rows.length<=c) (lx:x.length<=9223372036854775807):
  Calls Tryz.prog 94 #[.slice A rows.length c,.slice B x.length d] w fun e w'=>e= .returned (.bool (kW rows x))/\Ext w w':=by
 have HR:=Lib.hid hR
 have HX:=Lib.hid hx
 clear hR hx
 cases hI:dO rows with
 |false=>
  have HV:Hid (kW rows x=false):=Lib.hid (by simp[kW,hI])
  go_enter Tryz.func94,Tryz.ntmps94
  go_wp2_with (go_at_call 45;refine(kK A c rows _ HR.out lr hc).mono ?_;rintro e w1 ⟨rfl,he⟩)
  go_ret
  exact⟨gM HV.out.symm,he⟩
 |true=>
  have HV:Hid (kW rows x=FitB rows.length x):=Lib.hid (by simp[kW,hI])
  go_enter Tryz.func94,Tryz.ntmps94
  go_wp2_with (first|(go_at_call 45;refine(kK A c rows _ HR.out lr hc).mono ?_;rintro e w1 ⟨rfl,he⟩;have HE:=Lib.hid he;clear he)|(go_at_call 95;refine(oM rows.length B d x _ (HX.out.ext HE.out) lx).mono ?_;rintro e w2 ⟨rfl,rfl⟩))
  go_ret
  exact⟨gM HV.out.symm,HE.out⟩
def jA (rows:List (List Int)) (x y:List Int):Value:=
 if kW rows x=true/\FitB rows.length y=true then rE (iF x (fi rows y) x.length)else .tuple #[.int .i64 0,.bool false]
theorem uh (A B C:Option Addr) (c d d':Nat) (rows:List (List Int)) (x y:List Int) (w:World) (hR:pB .i64 w A rows) (hx:RdI .i64 w B x) (hy:RdI .i64 w C y) (lr:rows.length<=9223372036854775807) (hc:rows.length<=c) (lx:x.length<=9223372036854775807) (ly:y.length<=9223372036854775807):
  Calls Tryz.prog 47 #[.slice A rows.length c,.slice B x.length d,.slice C y.length d'] w fun e w'=>e= .returned (jA rows x y)/\Ext w w':=by
 have HR:=Lib.hid hR
 have HX:=Lib.hid hx
 have HY:=Lib.hid hy
 clear hR hx hy
 cases hI:kW rows x with
 |false=>
  have HV:Hid (jA rows x y= .tuple #[.int .i64 0,.bool false]):=Lib.hid (by unfold jA;rw[if_neg (by simp[hI])])
  go_enter Tryz.func47,Tryz.ntmps47
  go_wp2_with (go_at_call 94;refine(qh A B c d rows x _ HR.out HX.out lr hc lx).mono ?_;rintro e w1 ⟨rfl,he⟩)
  go_ret2
  exact⟨by rw[HV.out];rfl,he⟩
 |true=>
  cases hF:FitB rows.length y with
  |false=>
   have HV:Hid (jA rows x y= .tuple #[.int .i64 0,.bool false]):=Lib.hid (by unfold jA;rw[if_neg (by simp[hF])])
   go_enter Tryz.func47,Tryz.ntmps47
   go_wp2_with (first|(go_at_call 94;refine(qh A B c d rows x _ HR.out HX.out lr hc lx).mono ?_;rintro e w1 ⟨rfl,he⟩;have HE:=Lib.hid he;clear he)|(go_at_call 95;refine(oM rows.length C d' y _ (HY.out.ext HE.out) ly).mono ?_;rintro e w2 ⟨rfl,rfl⟩))
   go_ret2
   exact⟨by rw[HV.out];rfl,HE.out⟩
  |true=>
   have HV:Hid (jA rows x y=rE (iF x (fi rows y) x.length)):=Lib.hid (by unfold jA;rw[if_pos ⟨hI,hF⟩])
   have hI':=hI
   unfold kW at hI'
   rw[Bool.and_eq_true,ji]at hI'
   obtain⟨hr,hxl,hxb⟩:=hI'
   have hs:=ii hr
   have h8:rows.length<=8:=hs.2.1
   obtain⟨hyl,hyb⟩:=ji.1 hF
   have hxle:x.length<=rows.length:=by omega
   have hxge:rows.length<=x.length:=by omega
   have hyge:rows.length<=y.length:=by omega
   have HS:=Lib.hid hs
   have HYB:=Lib.hid hyb
   have HXB:=Lib.hid hxb
   have HA:=Lib.hid (tT hs hyb)
   have HAL:=Lib.hid (kH rows y)
   clear hr hxl hs hyl hyb hxb
   go_enter Tryz.func47,Tryz.ntmps47
   go_wp2_with (first|(go_at_call 94;refine(qh A B c d rows x _ HR.out HX.out lr hc lx).mono ?_;rintro e w1 ⟨rfl,he⟩;have HE:=Lib.hid he;clear he)|(go_at_call 95;refine(oM rows.length C d' y _ (HY.out.ext HE.out) ly).mono ?_;rintro e w2 ⟨rfl,rfl⟩))
   refine(tU A C c d' rows y _ (HR.out.ext HE.out) (HY.out.ext HE.out) (by omega) (fun i hi=>by rw[HS.out.2.2.1 i hi];exact hyge) ly).mono ?_
   rintro e w2 ⟨rfl,hrd,he2⟩
   have HE2:=Lib.hid (HE.out.trans he2)
   have HRD:=Lib.hid hrd
   clear hrd he2
   go_wp2_with fail
   have hcon:=AR B (some ⟨w1.heap.size,0,none⟩) d rows.length x (fi rows y) w2 (HX.out.ext HE2.out) HRD.out (by rw[HAL.out];exact hxle) (by omega) (by rw[HAL.out];omega) (fun i z hz=>lJ HXB.out hz) HA.out
   rw[HAL.out]at hcon
   refine hcon.mono ?_
   rintro e w3 ⟨rfl,he3⟩
   have HE3:=Lib.hid (HE2.out.trans he3)
   clear he3 hcon
   have HD:Hid (∃a b,rE (iF x (fi rows y) x.length)= .tuple #[a,b]):=Lib.hid (by unfold rE;split<;>exact⟨_,_,rfl⟩)
   obtain⟨va,vb,hd⟩:=HD.out
   rw[hd]
   have HDD:=Lib.hid hd
   clear hd
   go_wp2_with fail
   go_ret2
   exact⟨by rw[HV.out,HDD.out];rfl,HE3.out⟩
theorem EY (A B:Option Addr) (c d:Nat) (rows:List (List Int)) (x:List Int) (w:World) (hR:pB .i64 w A rows) (hx:RdI .i64 w B x) (lr:rows.length<=9223372036854775807) (hc:rows.length<=c) (lx:x.length<=9223372036854775807):
  Calls Tryz.prog 93 #[.slice A rows.length c,.slice B x.length d] w fun e w'=>e= .returned (jA rows x x)/\Ext w w':=by
 have HD:Hid (∃a b,jA rows x x= .tuple #[a,b]):=Lib.hid (by unfold jA rE;split<;>(try split)<;>exact⟨_,_,rfl⟩)
 have hcon:=uh A B B c d d rows x x w hR hx hx lr hc lx lx
 obtain⟨va,vb,hd⟩:=HD.out
 rw[hd]at hcon
 rw[hd]
 have HC:=Lib.hid hcon
 clear hcon hd HD
 go_enter Tryz.func93,Tryz.ntmps93
 go_wp2_with (go_at_call 47;refine HC.out.mono ?_;rintro e w1 ⟨rfl,he⟩)
 go_ret2
 exact⟨rfl,he⟩
def Jz (z:Int):Prop:= -9223372036854775808<=z/\z<=9223372036854775807
theorem Jz.sz {z:Int} (h:Jz z) {k:Nat} (hk:2<=k):Sz z k:=by
 have:Sz z 2:=by
  unfold Sz
  have:=h.1
  have:=h.2
  rw[show(4294967296:Nat)^2=18446744073709551616 by decide]
  omega
 exact this.mono hk
def MI (M:List (List Int)):Prop:= ∀r∈M,∀z∈r,Jz z
theorem MI.ent {M:List (List Int)} (h:MI M) (i j:Nat):Jz (ent M i j):=by
 simp only[Go.Proofs.YtfgeomlagfomgaaGreatDoor.ent,List.getD_eq_getElem?_getD]
 cases hr:M[i]? with
 |none=>simp[Jz]
 |some r=>
  simp only[Option.getD_some]
  cases hz:r[j]? with
  |none=>simp[Jz]
  |some z=>exact h r (List.mem_of_getElem? hr) z (List.mem_of_getElem? hz)
theorem KA {n c:Nat} {f:Nat->Nat->Int} (hn:1<=n):Sq (dC n c f)↔n=c:=by
 unfold Sq
 rw[cT]
 have e: ∀i,i<n->((dC n c f).getD i []).length=c:=fun i hi=>by
  rw[List.getD_eq_getElem?_getD,dm _ _ hi,Option.getD_some,dj]
 exact⟨fun h=>by rw[<- e 0 (by omega),h 0 (by omega)],fun h i hi=>by rw[e i hi,h]⟩
theorem re {f g:Nat->Nat->Int} {n:Nat} (h: ∀i j,i<n->j<n->f i j=g i j) (hf:iY f n):iY g n:=by
 obtain⟨h1,h2,h3,h4⟩:=hf
 have ed: ∀k,k<=n->dk g k=dk f k:=fun k hk=>lf fun i j hi hj=>(h i j (by omega) (by omega)).symm
 have eb: ∀t i,t<n->i<n->bk g t i t=bk f t i t:=fun t i ht hi=>by
  have e1:dk (qG g i t) (t+1)=bk g t i t:=y9 (fun r c hr hc=>by unfold qG;rw[if_pos hr]) (fun c hc=>by unfold qG;rw[if_neg (by omega)])
  have e2:dk (qG f i t) (t+1)=bk f t i t:=y9 (fun r c hr hc=>by unfold qG;rw[if_pos hr]) (fun c hc=>by unfold qG;rw[if_neg (by omega)])
  rw[<- e1,<- e2]
  refine lf fun r c hr hc=>?_
  unfold qG
  split
  ·exact(h r c (by omega) (by omega)).symm
  exact(h i c hi (by omega)).symm
 refine⟨fun i hi j hj=>by rw[<- h i j hi hj,<- h j i hj hi];exact h1 i hi j hj,fun k hk=>by rw[ed (k+1) (by omega)];exact h2 k hk,by rw[ed n (by omega)];exact h3,fun t ht=>⟨fun i hi hti=>?_,?_⟩⟩
 ·have:=(h4 t ht).1 i hi hti
  rw[ed (t+1) (by omega),eb t i (by omega) hi];exact this
 have:=(h4 t ht).2
 unfold JC at*
 rw[ed (t+1) (by omega),ed t (by omega),ed (t+1+1) (by omega),eb t (t+1) (by omega) (by omega)];exact this
theorem wE {n c:Nat} {f:Nat->Nat->Int} (hn1:1<=n):JD (dC n c f)↔n=c/\n<=8/\iY f n:=by
 unfold JD
 rw[cT,KA hn1]
 constructor
 ·rintro⟨_,h8,rfl,hr⟩
  exact⟨rfl,h8,re (fun i j hi hj=>vz f hi hj) hr⟩
 rintro⟨rfl,h8,hr⟩
 exact⟨hn1,h8,rfl,re (fun i j hi hj=>(vz f hi hj).symm) hr⟩
abbrev mp (l:List Int):TV:= .one (.p (.sl (ls fI l)))
abbrev LQ (n c:Nat) (f:Nat->Nat->Int) (y:List Int):List Int:=dz n fun i=>iF (dz c (f i)) y c
abbrev Dk (v:Int) (b:Bool):TV:= .tup [(false,[.p (.raw (.int .i64 v))]),(false,[.p (.raw (.bool b))])]
def KQ (z:Int):TV:=if -4611686018427387904<=z/\z<=4611686018427387904 then Dk z true else Dk 0 false
def CE (M:List (List Int)) (x y:List Int):TV:=if kW M x=true/\FitB M.length y=true then KQ (iF x (fi M y) x.length)else Dk 0 false
theorem yU {n:Nat} {f:Nat->Nat->Int} {y:List Int} (hr:dO (dC n n f)=true) (hy:Dq y=true):fi (dC n n f) y=LQ n n f y:=by
 have hs:=ii hr
 have h8:=hs.2.1
 rw[cT]at h8
 apply List.ext_getElem?
 intro i
 rw[fi,List.getElem?_map]
 by_cases hi:i<n
 ·rw[dm _ _ hi,cu _ hi]
  simp only[Option.map_some,dj]
  exact congrArg some (nR (hs.row_bd (dm _ _ hi)) (fun i z hz=>lJ hy hz) n h8).1
 rw[List.getElem?_eq_none (by rw[cT];omega),List.getElem?_eq_none (by rw[dj];omega)];rfl
theorem rU (M:List (List Int)) (x y:List Int): ∃v b,CE M x y=Dk v b/\jA M x y= .tuple #[.int .i64 v,.bool b]:=by
 unfold CE jA
 split
 ·unfold KQ rE
  split
  ·exact⟨_,_,rfl,rfl⟩
  exact⟨_,_,rfl,rfl⟩
 exact⟨_,_,rfl,rfl⟩
def cR (n d:Int):List AV:=[.p (.raw (.bool (decide (n<0)))),.p (.sl (ls fU (bT n.natAbs))),.p (.raw (.bool (decide (d<0)))),.p (.sl (ls fU (bT d.natAbs)))]
def qF (l d:Int):Int:=(2*l+d)/(2*d)
def trF (f:Nat->Nat->Int):Nat->Nat->Int:=fun a b=>f b a
def tw:Nat->Nat->Int:=fun a b=>if a=b then 1 else 0
def C5 (i:Nat):Nat->Nat->Int:=fun a b=>if a<i/\a=b then 1 else 0
theorem Fo (i a b:Nat):upd (C5 i) i i 1 a b=C5 (i+1) a b:=by
 unfold upd C5
 by_cases h1:a=i
 ·subst h1
  by_cases h2:b=a
  ·subst h2;simp
  simp[h2,Ne.symm h2]
 have:a<i+1↔a<i:=by omega
 simp[h1,this]
theorem Ii {n:Nat} (a b:Nat) (ha:a<n):C5 n a b=tw a b:=by unfold C5 tw;simp[ha]
def zD (k:Nat) (f g:Nat->Nat->Int):Nat->Nat->Int:=fun i j=>iF (dz k (f i)) (dz k (trF g j)) k
def cngF (n:Nat) (h t:Nat->Nat->Int):Nat->Nat->Int:=zD n (zD n (trF t) h) t
def dK (F:Nat->Int):Nat->Int
 |0=>0
 |k+1=>dK F k+F k
theorem bZ {F G:Nat->Int}: ∀k,(∀p,p<k->F p=G p)->dK F k=dK G k
 |0,_=>rfl
 |k+1,h=>by rw[dK,dK,bZ k (fun p hp=>h p (by omega)),h k (by omega)]
theorem kA (F G:Nat->Int): ∀k,dK (fun p=>F p+G p) k=dK F k+dK G k
 |0=>rfl
 |k+1=>by rw[dK,dK,dK,kA F G k];omega
theorem fQ: ∀k,dK (fun _=>0) k=0
 |0=>rfl
 |k+1=>by rw[dK,fQ k];rfl
theorem jg {F:Nat->Int} {a:Nat}: ∀{k},a<k->(∀p,p<k->p≠a->F p=0)->dK F k=F a
 |k+1,h,h0=>by
  by_cases e:a=k
  ·subst e
   rw[dK,bZ a (G:=fun _=>0) (fun p hp=>h0 p (by omega) (by omega)),fQ];omega
  rw[dK,jg (show a<k by omega) (fun p hp hn=>h0 p (by omega) hn),h0 k (by omega) (by omega)];omega
theorem oG {k:Nat} (x y:Nat->Int): ∀l,l<=k->iF (dz k x) (dz k y) l=dK (fun p=>x p*y p) l
 |0,_=>rfl
 |l+1,h=>by
  show iF (dz k x) (dz k y) l+(dz k x).getD l 0*(dz k y).getD l 0=_
  rw[oG x y l (by omega),List.getD_eq_getElem?_getD,List.getD_eq_getElem?_getD,cu _ (by omega),cu _ (by omega)]
  rfl
theorem oT (k:Nat) (f g:Nat->Nat->Int) (i j:Nat):zD k f g i j=dK (fun p=>f i p*g p j) k:=oG _ _ k (ai _)
def Lu (i j:Nat) (c:Int):Nat->Nat->Int:=upd tw j i c
def L8 (m:Nat):Nat->Nat->Int:=fun a=>tw (nK m a)
theorem By (m a:Nat):nK m (nK m a)=a:=by
 unfold nK
 by_cases h1:a=m
 ·subst h1;simp
 by_cases h2:a=m+1
 ·subst h2;simp
 simp[h1,h2]
theorem JG {i j:Nat} {c:Int} (hji:j≠i) (p b:Nat):Lu i j c p b=tw p b+(if p=j then(if b=i then c else 0)else 0):=by
 unfold Lu upd tw
 by_cases h1:p=j
 ·subst h1
  by_cases h2:b=i
  ·subst h2;simp[hji]
  simp[h2]
 simp[h1]
theorem F7 {n:Nat} {y:Nat->Int} {b:Nat} (hb:b<n):dK (fun p=>y p*tw p b) n=y b:=by
 rw[jg hb (fun p hp hn=>by simp[tw,hn])];simp[tw]
theorem J8 {n i j:Nat} {c:Int} (hji:j≠i) (hj:j<n) (x:Nat->Nat->Int) (a b:Nat) (hb:b<n):zD n x (Lu i j c) a b=x a b+(if b=i then c*x a j else 0):=by
 rw[oT,bZ n (G:=fun p=>x a p*tw p b+x a p*(if p=j then(if b=i then c else 0)else 0)) (fun p _=>by rw[JG hji,Int.mul_add]),kA,F7 hb]
 congr 1
 rw[jg hj (fun p _ hn=>by simp[hn])]
 by_cases h:b=i
 ·simp[h,Int.mul_comm]
 simp[h]
theorem Ht (m p b:Nat):tw (nK m p) b=tw p (nK m b):=by
 unfold tw
 have:nK m p=b↔p=nK m b:=⟨fun h=>by rw[<- h,By],fun h=>by rw[h,By]⟩
 simp only[this]
theorem J9 {n m:Nat} (hm:m+1<n) (x:Nat->Nat->Int) (a b:Nat) (hb:b<n):zD n x (L8 m) a b=x a (nK m b):=by
 rw[oT,bZ n (G:=fun p=>x a p*tw p (nK m b)) (fun p _=>by rw[<- Ht];rfl),F7 (ot hm hb)]
/-! Which change is made. -/
inductive Ch where
 |add (i j:Nat)
 |swp (m:Nat)
instance (f:Nat->Nat->Int) (i j:Nat):Decidable (mr f i j):=by unfold mr;exact inferInstance
instance (f:Nat->Nat->Int) (i:Nat):Decidable (rb f i):=by unfold rb;exact inferInstance
def uM (f:Nat->Nat->Int) (i:Nat):Nat->Option Nat
 |0=>none
 |j+1=>if mr f i j then uM f i j else some j
def Bu (f:Nat->Nat->Int):Nat->Nat->Option Ch
 |0,_=>none
 |m+1,i=>match uM f i i with
  |some j=>some (.add i j)
  |none=>if 0<i/\ ¬rb f i then some (.swp (i-1))else Bu f m (i+1)
def yc (f:Nat->Nat->Int) (n:Nat):Option Ch:=Bu f n 0
theorem oq {f:Nat->Nat->Int} {i:Nat}: ∀{k},uM f i k=none-> ∀j,j<k->mr f i j
 |k+1,h,j,hj=>by
  unfold uM at h
  split at h
  ·rename_i hs
   by_cases e:j=k
   ·subst e;exact hs
   exact oq h j (by omega)
  cases h
theorem sO {f:Nat->Nat->Int} {i j:Nat}: ∀{k},uM f i k=some j->j<k/\ ¬mr f i j/\ ∀j',j<j'->j'<k->mr f i j'
 |k+1,h=>by
  unfold uM at h
  split at h
  ·rename_i hs
   obtain⟨h1,h2,h3⟩:=sO h
   refine⟨by omega,h2,fun j' g1 g2=>?_⟩
   by_cases e:j'=k
   ·subst e;exact hs
   exact h3 j' g1 (by omega)
  rename_i hs
  injection h with h
  subst h
  exact⟨by omega,hs,fun j' g1 g2=>by omega⟩
def rf (f:Nat->Nat->Int) (i:Nat):Prop:=(∀j,j<i->mr f i j)/\(0<i->rb f i)
def Lq (f:Nat->Nat->Int):Ch->Prop
 | .add i j=>j<i/\ ¬mr f i j/\(∀j',j<j'->j'<i->mr f i j')/\ ∀i',i'<i->rf f i'
 | .swp m=> ¬rb f (m+1)/\(∀j,j<m+1->mr f (m+1) j)/\ ∀i',i'<m+1->rf f i'
def Ax:Ch->Nat
 | .add i _=>i
 | .swp m=>m+1
theorem sN {f:Nat->Nat->Int} {c:Ch}: ∀{m i},(∀i',i'<i->rf f i')->Bu f m i=some c->Lq f c/\Ax c<i+m
 |m+1,i,hi,h=>by
  unfold Bu at h
  split at h
  ·rename_i j hj
   injection h with h
   subst h
   obtain⟨h1,h2,h3⟩:=sO hj
   exact⟨⟨h1,h2,h3,hi⟩,by simp[Ax]⟩
  rename_i hj
  split at h
  ·rename_i hl
   injection h with h
   subst h
   have e:i-1+1=i:=by omega
   refine⟨⟨by rw[e];exact hl.2,by rw[e];exact oq hj,by rw[e];exact hi⟩,by simp[Ax];omega⟩
  rename_i hl
  have:=sN (m:=m) (i:=i+1) (fun i' h'=>by
   by_cases e:i'=i
   ·subst e
    exact⟨oq hj,fun h0=>by
     by_cases hL:rb f i'
     ·exact hL
     exact absurd ⟨h0,hL⟩ hl⟩
   exact hi i' (by omega)) h
  exact⟨this.1,by omega⟩
theorem mb {f:Nat->Nat->Int} {n:Nat} {c:Ch} (h:yc f n=some c):Lq f c/\Ax c<n:=by
 have:=sN (f:=f) (m:=n) (i:=0) (fun i' h=>by omega) h
 exact⟨this.1,by omega⟩
def s7 (i:Nat):Nat:=i*(i-1)/2
def xX:Ch->Nat
 | .add i j=>s7 i+(i-1-j)
 | .swp m=>s7 (m+2)
theorem lG (i:Nat):s7 (i+1)=s7 i+i:=by
 unfold s7
 cases i with
 |zero=>rfl
 |succ i=>
  rw[Nat.add_sub_cancel,Nat.add_sub_cancel]
  have:(i+1+1)*(i+1)=(i+1)*i+2*(i+1):=by rw[Nat.add_mul,Nat.one_mul,Nat.mul_add,Nat.mul_add,Nat.add_mul];omega
  rw[this,Nat.add_mul_div_left _ _ (by omega)]
theorem jO {i j:Nat} (h:i<=j):s7 i<=s7 j:=by
 induction j with
 |zero=>have:i=0:=(by omega);subst this;exact ai _
 |succ j ih=>
  by_cases e:i=j+1
  ·subst e;exact ai _
  have:=ih (by omega);rw[lG];omega
def rankF (f:Nat->Nat->Int) (n:Nat):Nat:=match yc f n with
 |some c=>xX c
 |none=>s7 n
theorem Fs (f:Nat->Nat->Int) (n:Nat):rankF f n<=s7 n:=by
 unfold rankF
 split
 ·rename_i c hc
  obtain⟨h1,h2⟩:=mb hc
  cases c with
  |add i j=>
   have h2:i<n:=h2
   have:=jO (show i+1<=n by omega)
   rw[lG]at this
   obtain⟨h1,_⟩:=h1
   simp only[xX];omega
  |swp m=>
   have h2:m+1<n:=h2
   exact jO (show m+2<=n by omega)
 exact ai _
theorem In {f:Nat->Nat->Int} {n i j:Nat} (hj:j<i) (hi:i<n) (h1: ∀i',i'<i->rf f i') (h2: ∀j',j<=j'->j'<i->mr f i j'):s7 i+(i-1-j)<rankF f n:=by
 have hni:=jO (show i+1<=n by omega)
 rw[lG]at hni
 unfold rankF
 split
 ·rename_i c hc
  obtain⟨g1,g2⟩:=mb hc
  cases c with
  |add i' j'=>
   obtain⟨a1,a2,a3,a4⟩:=g1
   simp only[xX]
   rcases Nat.lt_trichotomy i' i with h|h|h
   ·exact absurd ((h1 i' h).1 j' a1) a2
   ·subst h
    by_cases e:j<=j'
    ·exact absurd (h2 j' e a1) a2
    omega
   have:=jO (show i+1<=i' by omega)
   rw[lG]at this
   omega
  |swp m=>
   obtain⟨a1,a2,a3⟩:=g1
   simp only[xX]
   by_cases h:m+1<i
   ·exact absurd ((h1 (m+1) h).2 (by omega)) a1
   have:=jO (show i+1<=m+2 by omega)
   rw[lG]at this
   omega
 omega
section
theorem wT {B:Nat} {d1 d0 x y u v:Int} (h1:0<d1) (h0:d0.natAbs<=B) (h:d1*x=d0*y+u*v):x.natAbs<=B*y.natAbs+u.natAbs*v.natAbs:=by
 have e1:d1.natAbs*x.natAbs=(d0*y+u*v).natAbs:=by rw[<- Int.natAbs_mul,h]
 have e2:=Int.natAbs_add_le (d0*y) (u*v)
 rw[Int.natAbs_mul,Int.natAbs_mul]at e2
 have e3:d0.natAbs*y.natAbs<=B*y.natAbs:=Nat.mul_le_mul_right _ h0
 have e4:x.natAbs<=d1.natAbs*x.natAbs:=Nat.le_mul_of_pos_left _ (by omega)
 omega
theorem EX {d1 d0 x y l:Int} (h1:0<d1) (h0:0<d0) (hx:0<x) (hy:0<y) (h:d1*x=d0*y+l*l):d1.natAbs*x.natAbs=d0.natAbs*y.natAbs+l.natAbs*l.natAbs:=by
 apply Int.ofNat_inj.1
 rw[Int.natCast_add,Int.natCast_mul,Int.natCast_mul,Int.natCast_mul,Int.natAbs_of_nonneg (by omega),Int.natAbs_of_nonneg (by omega),Int.natAbs_of_nonneg (by omega),Int.natAbs_of_nonneg (by omega),Int.natAbs_mul_self',h]
structure Def (f:Nat->Nat->Int) (n B:Nat):Prop where
 sym:SymF f n
 pos: ∀t,t<n->0<dk f (t+1)
 le: ∀k,k<=n->(dk f k).natAbs<=B
section
variable {f:Nat->Nat->Int} {n B:Nat}
theorem Def.ne (h:Def f n B): ∀t,t<n->dk f (t+1)≠0:=fun t ht=>by have:=h.pos t ht;omega
theorem Def.pos0 (h:Def f n B) {k:Nat} (hk:k<=n):0<dk f k:=by
 cases k with
 |zero=>rw[gg];omega
 |succ k=>exact h.pos k (by omega)
theorem Def.sylv (h:Def f n B) {k a b:Nat} (hk:k<n) (ha:a<n) (hb:b<n):dk f (k+1)*bk f k a b=dk f k*bk f (k+1) a b+bk f k a k*bk f k b k:=by
 have s:=Go.Proofs.YtfgeomlagfomgaaGreatDoor.sylv f k (fun t ht=>h.ne t (by omega)) a b
 rw[mA h.sym k (by omega) (fun t ht=>h.ne t (by omega)) k b hk hb]at s
 omega
theorem Def.diag (h:Def f n B) {a:Nat} (ha:a<n): ∀m k,a-k=m->k<=a->0<bk f k a a
 |0,k,hm,hk=>by
  have:k=a:=by omega
  subst this
  rw[<- dS];exact h.pos k ha
 |m+1,k,hm,hk=>by
  have ih:=h.diag ha m (k+1) (by omega) (by omega)
  have s:=h.sylv (k:=k) (by omega) ha ha
  have p1:=h.pos k (by omega)
  have p0:=h.pos0 (k:=k) (by omega)
  have q1:=Int.mul_pos p0 ih
  have q2:0<=bk f k a k*bk f k a k:=by
   rcases Int.le_total 0 (bk f k a k)with h|h
   ·exact Int.mul_nonneg h h
   exact Int.mul_nonneg_of_nonpos_of_nonpos h h
  rcases Int.lt_or_le 0 (bk f k a a)with h|h
  ·exact h
  have:=Int.mul_nonpos_of_nonneg_of_nonpos (Int.le_of_lt p1) h
  omega
theorem Def.down (h:Def f n B) {a k:Nat} (ha:a<n) (hk:k<a):(bk f k a k).natAbs*(bk f k a k).natAbs<=B*(bk f k a a).natAbs/\(bk f (k+1) a a).natAbs<=B*(bk f k a a).natAbs:=by
 have s:=EX (h.pos k (by omega)) (h.pos0 (k:=k) (by omega)) (h.diag ha _ k rfl (by omega)) (h.diag ha _ (k+1) rfl (by omega)) (h.sylv (k:=k) (by omega) ha ha)
 have hB:=Nat.mul_le_mul_right (bk f k a a).natAbs (h.le (k+1) (by omega))
 have p0:=h.pos0 (k:=k) (by omega)
 have:=Nat.le_mul_of_pos_left (bk f (k+1) a a).natAbs (show 0<(dk f k).natAbs by omega)
 omega
theorem Def.nm (h:Def f n B) {a:Nat} (ha:a<n): ∀k,k<=a->(bk f k a a).natAbs<=B^k*(f a a).natAbs
 |0,_=>by rw[fX];simp
 |k+1,hk=>by
  have h1:=(h.down ha (show k<a by omega)).2
  have h2:=aJ B (h.nm ha k (by omega))
  rw[Nat.pow_succ,Nat.mul_comm (B^k) B,Nat.mul_assoc]
  omega
theorem Def.lam_le (h:Def f n B) {a k C:Nat} (ha:a<n) (hk:k<a) (hB:1<=B) (hC:(f a a).natAbs<=C):(bk f k a k).natAbs<=B^n*C:=by
 have h1:=(h.down ha hk).1
 have h2:=aJ B (h.nm ha k (by omega))
 have h3:(bk f k a k).natAbs<=(bk f k a k).natAbs*(bk f k a k).natAbs:=Nat.le_mul_self _
 have h4:B*(B^k*(f a a).natAbs)=B^(k+1)*(f a a).natAbs:=by rw[Nat.pow_succ,Nat.mul_comm (B^k) B,Nat.mul_assoc]
 have h5:B^(k+1)<=B^n:=Nat.pow_le_pow_right hB (by omega)
 have h6:B^(k+1)*(f a a).natAbs<=B^n*C:=Nat.mul_le_mul h5 hC
 omega
theorem Def.up (h:Def f n B) {a L:Nat} (ha:a<n) (hL: ∀k,k<a->(bk f k a k).natAbs<=L): ∀m k,a-k=m->k<=a->(bk f k a a).natAbs<=(B+L*L)*(B+1)^m
 |0,k,hm,hk=>by
  have:k=a:=by omega
  subst this
  rw[<- dS]
  have:=h.le (k+1) (by omega)
  simp
  omega
 |m+1,k,hm,hk=>by
  have ih:=h.up ha hL m (k+1) (by omega) (by omega)
  have s:=wT (h.pos k (by omega)) (h.le k (by omega)) (h.sylv (k:=k) (by omega) ha ha)
  have hl:=hL k (by omega)
  have h2:=Nat.mul_le_mul hl hl
  have h3:=aJ B ih
  have h4:L*L<=(B+L*L)*(B+1)^m:=aI (by omega) (Nat.le_mul_of_pos_right _ (Nat.pow_pos (by omega)))
  rw[Nat.pow_succ,<- Nat.mul_assoc,Nat.mul_add,Nat.mul_one,Nat.mul_comm _ B]
  omega
theorem Def.norm_le (h:Def f n B) {a L:Nat} (ha:a<n) (hL: ∀k,k<a->(bk f k a k).natAbs<=L):(f a a).natAbs<=(B+L*L)*(B+1)^n:=by
 have h1:=h.up ha hL a 0 rfl (by omega)
 rw[fX]at h1
 exact aI h1 (aJ _ (Nat.pow_le_pow_right (by omega) (by omega)))
theorem Def.ent_up (h:Def f n B) {a b L:Nat} (ha:a<n) (hb:b<a) (hL: ∀a k,a<n->k<a->(bk f k a k).natAbs<=L): ∀m k,b-k=m->k<=b->(bk f k a b).natAbs<=(L+L*L)*(B+1)^m
 |0,k,hm,hk=>by
  have:k=b:=by omega
  subst this
  have:=hL a k ha hb
  simp
  omega
 |m+1,k,hm,hk=>by
  have ih:=h.ent_up ha hb hL m (k+1) (by omega) (by omega)
  have s:=wT (h.pos k (by omega)) (h.le k (by omega)) (h.sylv (k:=k) (a:=a) (b:=b) (by omega) ha (by omega))
  have h2:=Nat.mul_le_mul (hL a k ha (by omega)) (hL b k (by omega) (by omega))
  have h3:=aJ B ih
  have h4:L*L<=(L+L*L)*(B+1)^m:=aI (by omega) (Nat.le_mul_of_pos_right _ (Nat.pow_pos (by omega)))
  rw[Nat.pow_succ,<- Nat.mul_assoc,Nat.mul_add,Nat.mul_one,Nat.mul_comm _ B]
  omega
theorem Def.ent_le (h:Def f n B) {L:Nat} (hL: ∀a k,a<n->k<a->(bk f k a k).natAbs<=L) {a b:Nat} (ha:a<n) (hb:b<n):(f a b).natAbs<=(B+L+L*L)*(B+1)^n:=by
 have key: ∀a b,a<n->b<a->(f a b).natAbs<=(B+L+L*L)*(B+1)^n:=fun a b ha hb=>by
  have h1:=h.ent_up ha hb hL b 0 rfl (by omega)
  rw[fX]at h1
  refine aI h1 (Nat.mul_le_mul (by omega) (Nat.pow_le_pow_right (by omega) (by omega)))
 rcases Nat.lt_trichotomy a b with h'|h'|h'
 ·rw[h.sym a ha b hb];exact key b a hb h'
 ·subst h'
  have h1:=h.norm_le ha (fun k hk=>hL a k ha hk)
  exact aI h1 (Nat.mul_le_mul_right _ (by omega))
 exact key a b ha h'
end
/-! The numbers of the reduction. -/
section
variable {f:Nat->Nat->Int} {n B:Nat}
def cN (n B:Nat):Nat:=(B+B*B)*(B+1)^n
def l0 (n B:Nat):Nat:=B^n*cN n B
theorem sV (h:Def f n B) {i j:Nat} (hi:i<n) (hj:j<i):mr f i j↔2*((bk f j i j).natAbs:Int)<=dk f (j+1):=by
 rw[mr,zx h.pos (by omega),xc h.pos (by omega)]
theorem zy (h:Def f n B) {i:Nat} (hi:i<n) (h0:0<i):rb f i↔3*(dk f i*dk f i)<=4*(dk f (i-1)*dk f (i+1)+bk f (i-1) i (i-1)*bk f (i-1) i (i-1)):=by
 rw[rb,zx h.pos (by omega),xc h.pos (by omega),xc h.pos (by omega),xc h.pos (by omega)]
theorem z8 (h:Def f n B) {i j:Nat} (hi:i<n) (hj:j<i) (hs:mr f i j):(bk f j i j).natAbs<=B:=by
 have h1:=(sV h hi hj).1 hs
 have h2:=h.le (j+1) (by omega)
 omega
theorem pZ (h:Def f n B) {i:Nat} (hi:i<n) (hs: ∀j,j<i->mr f i j):(f i i).natAbs<=cN n B:=h.norm_le hi fun k hk=>z8 h hi hk (hs k hk)
def Jn (f:Nat->Nat->Int) (n B:Nat):Prop:=(∀a,a<n->(f a a).natAbs<=cN n B)\/
 ∃i,i<n/\(∀a,a<n->a≠i->(f a a).natAbs<=cN n B)/\(∀i',i'<i->rf f i')/\ ∃s,s<=i/\(∀j',s<=j'->j'<i->mr f i j')/\ ∀k,k<i->(bk f k i k).natAbs+2<=(l0 n B+2)*(B+2)^(i-s)
def lM (n B:Nat):Nat:=(l0 n B+2)*(B+2)^n
theorem Jn.lam (h:Def f n B) (hB:1<=B) (hj:Jn f n B): ∀a k,a<n->k<a->(bk f k a k).natAbs<=lM n B:=by
 have h1:l0 n B<=lM n B:=aI (by omega) (Nat.le_mul_of_pos_right _ (Nat.pow_pos (by omega)))
 have h2: ∀e,e<=n->(l0 n B+2)*(B+2)^e<=lM n B:=fun e he=>aJ _ (Nat.pow_le_pow_right (by omega) he)
 rcases hj with hj|⟨i,hi,hj,_,s,hs,_,hl⟩
 ·exact fun a k ha hk=>aI (h.lam_le ha hk hB (hj a ha)) h1
 intro a k ha hk
 by_cases e:a=i
 ·subst e
  have:=hl k hk
  have:=h2 (a-s) (by omega)
  omega
 exact aI (h.lam_le ha hk hB (hj a ha e)) h1
def eN (n B:Nat):Nat:=(B+lM n B+lM n B*lM n B)*(B+1)^n
theorem Jn.ent (h:Def f n B) (hB:1<=B) (hj:Jn f n B) {a b:Nat} (ha:a<n) (hb:b<n):(f a b).natAbs<=eN n B:=h.ent_le (hj.lam h hB) ha hb
end
end
section
theorem Ij {l d:Int} (hd:0<d):2*((l+ -(qF l d)*d).natAbs:Int)<=d:=by
 unfold qF
 have h1:=Int.emod_add_mul_ediv (2*l+d) (2*d)
 have h2:=Int.emod_nonneg (2*l+d) (show 2*d≠0 by omega)
 have h3:=Int.emod_lt_of_pos (2*l+d) (show 0<2*d by omega)
 generalize(2*l+d)/(2*d)=q at*
 have e:2*d*q=2*(q*d):=by rw[Int.mul_assoc,Int.mul_comm d q]
 rw[e]at h1
 have e2: -q*d= -(q*d):=Int.neg_mul q d
 rw[e2]
 omega
theorem Fq {l d:Int} (hd:0<d):(qF l d).natAbs<=l.natAbs+1:=by
 unfold qF
 have h1:=Int.emod_add_mul_ediv (2*l+d) (2*d)
 have h2:=Int.emod_nonneg (2*l+d) (show 2*d≠0 by omega)
 have h3:=Int.emod_lt_of_pos (2*l+d) (show 0<2*d by omega)
 generalize(2*l+d)/(2*d)=q at*
 have e:2*d*q=2*(d*q):=Int.mul_assoc 2 d q
 rw[e]at h1
 have e2:(d*q).natAbs=d.natAbs*q.natAbs:=Int.natAbs_mul d q
 have e3:l.natAbs<=d.natAbs*l.natAbs:=Nat.le_mul_of_pos_left _ (by omega)
 rcases Nat.lt_or_ge (l.natAbs+1) q.natAbs with h|h
 ·exfalso
  have h4:=aJ d.natAbs (show l.natAbs+2<=q.natAbs by omega)
  rw[Nat.mul_add]at h4
  omega
 exact h
section
variable {f:Nat->Nat->Int} {n B:Nat}
theorem DR (hs:SymF f n) {i j:Nat} (c:Int) (hj:j<n):SymF (ig f i j c) n:=fun a ha b hb=>by
 by_cases hab:a=b
 ·subst hab;rfl
 unfold ig
 rw[hs a ha b hb]
 by_cases h1:a=i
 ·by_cases h2:b=i
  ·omega
  simp only[h1,h2,if_true,if_false];rw[hs j hj b hb];omega
 by_cases h2:b=i
 ·simp only[h1,h2,if_true,if_false];rw[hs a ha j hj];omega
 simp only[h1,h2,if_false]
theorem Def.add (h:Def f n B) {i j:Nat} (c:Int) (hji:j<i) (hi:i<n):Def (ig f i j c) n B:=by
 obtain⟨h1,_⟩:=jU h.sym h.ne c hji hi
 exact⟨DR h.sym c (by omega),fun t ht=>by rw[h1 (t+1) (by omega)];exact h.pos t ht,fun k hk=>by rw[h1 k hk];exact h.le k hk⟩
theorem uH (h:Def f n B) {i j:Nat} (c:Int) (hji:j<i) (hi:i<n) {i':Nat} (hi':i'<i) (hr:rf f i'):rf (ig f i j c) i':=by
 have h':=h.add c hji hi
 obtain⟨h1,h2,h3⟩:=jU h.sym h.ne c hji hi
 have hb: ∀k,k<i'->bk (ig f i j c) k i' k=bk f k i' k:=fun k hk=>by
  by_cases e:k<=j
  ·rw[h2 k i' k e,rn (by omega) (by omega)]
  exact h3 k i' k (by omega) (by omega) (by omega) (by omega)
 refine⟨fun k hk=>?_,fun h0=>?_⟩
 ·rw[sV h' (by omega) hk,hb k hk,h1 _ (by omega)]
  exact(sV h (by omega) hk).1 (hr.1 k hk)
 rw[zy h' (by omega) h0,hb _ (by omega),h1 _ (by omega),h1 _ (by omega),h1 _ (by omega)]
 exact(zy h (by omega) h0).1 (hr.2 h0)
def cF (f:Nat->Nat->Int) (i j:Nat):Int:= -(qF (lam f i j) (dd f (j+1)))
theorem D2 (h:Def f n B) {i j:Nat} (hj:j<n):cF f i j= -(qF (bk f j i j) (dk f (j+1))):=by rw[cF,zx h.pos hj,xc h.pos (by omega)]
theorem wn (h:Def f n B) {i j:Nat} (hji:j<i) (hi:i<n) {j':Nat} (h1:j<=j') (h2:j'<i) (hs:j<j'->mr f i j'):mr (ig f i j (cF f i j)) i j':=by
 have h':=h.add (cF f i j) hji hi
 obtain⟨g1,g2,g3⟩:=jU h.sym h.ne (cF f i j) hji hi
 rw[sV h' hi h2,g1 _ (by omega)]
 by_cases e:j'=j
 ·subst e
  rw[g2 j' i j' (by omega)]
  have:ig (bk f j') i j' (cF f i j') i j'=bk f j' i j'+cF f i j'*dk f (j'+1):=by
   unfold ig
   have hn: ¬j'=i:=by omega
   simp only[if_true,hn,if_false]
   rw[dS];omega
  rw[this,D2 h (by omega)]
  exact Ij (h.pos j' (by omega))
 rw[g3 j' i j' (by omega) (by omega) hi (by omega)]
 exact(sV h hi h2).1 (hs (by omega))
theorem JB (h:Def f n B) (hB:1<=B) (hJ:Jn f n B) {i j:Nat} (hF:Lq f (.add i j)) (hi:i<n):Jn (ig f i j (cF f i j)) n B:=by
 obtain⟨hji,hns,hs,hr⟩:=hF
 obtain⟨g1,g2,g3⟩:=jU h.sym h.ne (cF f i j) hji hi
 have hoff: ∀a,a≠i->ig f i j (cF f i j) a a=f a a:=fun a ha=>rn ha ha
 -- the new lambdas of row i
 have hnew: ∀M:Nat,(∀k,k<i->(bk f k i k).natAbs+2<=M)-> ∀k,k<i->(bk (ig f i j (cF f i j)) k i k).natAbs+2<=M*(B+2):=fun M hM k hk=>by
  have hMk:=hM k hk
  have hMj:=hM j hji
  have e0:M*(B+2)=M*B+2*M:=by rw[Nat.mul_add,Nat.mul_comm M 2]
  rcases Nat.lt_trichotomy k j with e|e|e
  ·rw[g2 k i k (by omega)]
   have e1:ig (bk f k) i j (cF f i j) i k=bk f k i k+cF f i j*bk f k j k:=by
    unfold ig
    have hn: ¬k=i:=by omega
    simp only[if_true,hn,if_false];omega
   rw[e1]
   have a1:=Int.natAbs_add_le (bk f k i k) (cF f i j*bk f k j k)
   rw[Int.natAbs_mul]at a1
   have a2:(cF f i j).natAbs<=(bk f j i j).natAbs+1:=by rw[D2 h (by omega),Int.natAbs_neg];exact Fq (h.pos j (by omega))
   have a3:(bk f k j k).natAbs<=B:=z8 h (by omega) e ((hr j hji).1 k e)
   have a4:=Nat.mul_le_mul (show(cF f i j).natAbs<=M by omega) a3
   omega
  ·subst e
   have hz:=wn h hji hi (ai k) hk (fun h=>by omega)
   have:=z8 (h.add (cF f i k) hji hi) hi hk hz
   have:B<=M*B:=Nat.le_mul_of_pos_left _ (by omega)
   omega
  rw[g3 k i k (by omega) (by omega) hi (by omega)]
  have:0<=M*B:=Nat.zero_le _
  omega
 have hfin: ∀M e:Nat,1<=e->e<=i-j->M*(B+2)<=(l0 n B+2)*(B+2)^e->(∀a,a<n->a≠i->(f a a).natAbs<=cN n B)->(∀k,k<i->(bk f k i k).natAbs+2<=M)->Jn (ig f i j (cF f i j)) n B:=fun M e he1 he2 hMe hA hM=>by
  refine .inr ⟨i,hi,fun a ha hne=>by rw[hoff a hne];exact hA a ha hne,fun i' hi'=>uH h _ hji hi hi' (hr i' hi'),j,by omega,fun j' h1 h2=>wn h hji hi h1 h2 (fun h3=>hs j' h3 h2),fun k hk=>?_⟩
  refine aI (hnew M hM k hk) (aI hMe (aJ _ (Nat.pow_le_pow_right (by omega) he2)))
 rcases hJ with hA|⟨i1,hi1,hA,hr1,s,hs1,hs2,hl⟩
 ·refine hfin (l0 n B+2) 1 (by omega) (by omega) (by rw[Nat.pow_one];exact ai _) (fun a ha _=>hA a ha) (fun k hk=>?_)
  have:(bk f k i k).natAbs<=l0 n B:=h.lam_le hi hk hB (hA i hi)
  omega
 by_cases e:i1=i
 ·subst e
  have hjs:j<s:=by
   rcases Nat.lt_or_ge j s with h'|h'
   ·exact h'
   exact absurd (hs2 j h' hji) hns
  refine hfin ((l0 n B+2)*(B+2)^(i1-s)) (i1-s+1) (by omega) (by omega) (by rw[Nat.pow_succ,Nat.mul_assoc];exact ai _) hA hl
 have hall:(f i1 i1).natAbs<=cN n B:=by
  rcases Nat.lt_or_ge i1 i with h'|h'
  ·exact pZ h hi1 (hr i1 h').1
  exact absurd ((hr1 i (by omega)).1 j hji) hns
 have hA': ∀a,a<n->(f a a).natAbs<=cN n B:=fun a ha=>by
  by_cases e':a=i1
  ·subst e';exact hall
  exact hA a ha e'
 refine hfin (l0 n B+2) 1 (by omega) (by omega) (by rw[Nat.pow_one];exact ai _) (fun a ha _=>hA' a ha) (fun k hk=>?_)
 have:(bk f k i k).natAbs<=l0 n B:=h.lam_le hi hk hB (hA' i hi)
 omega
theorem uR (h:Def f n B) {m:Nat} (hm:m+1<n) (hl: ¬rb f (m+1)):4*dk (kf f m) (m+1)<3*dk f (m+1)/\0<dk (kf f m) (m+1):=by
 obtain⟨h1,h2⟩:=s6 h.sym h.pos hm
 refine⟨?_,h2⟩
 have h3: ¬3*(dk f (m+1)*dk f (m+1))<=4*(dk f m*dk f (m+2)+bk f m (m+1) m*bk f m (m+1) m):=fun hh=>hl ((zy h hm (by omega)).2 hh)
 rw[<- h1]at h3
 have p:=h.pos m (by omega)
 rcases Int.lt_or_le (4*dk (kf f m) (m+1)) (3*dk f (m+1))with h4|h4
 ·exact h4
 exfalso
 have h5:=Int.mul_le_mul_of_nonneg_left h4 (Int.le_of_lt p)
 have e1:dk f (m+1)*(3*dk f (m+1))=3*(dk f (m+1)*dk f (m+1)):=Int.mul_left_comm _ _ _
 have e2:dk f (m+1)*(4*dk (kf f m) (m+1))=4*(dk f (m+1)*dk (kf f m) (m+1)):=Int.mul_left_comm _ _ _
 omega
theorem Def.swap (h:Def f n B) {m:Nat} (hm:m+1<n) (hl: ¬rb f (m+1)):Def (kf f m) n B:=by
 obtain⟨h1,_⟩:=mY h.sym h.pos hm
 obtain⟨g1,g2⟩:=uR h hm hl
 have p:=h.pos m (by omega)
 refine⟨fun a ha b hb=>h.sym _ (ot hm ha) _ (ot hm hb),fun t ht=>?_,fun k hk=>?_⟩
 ·by_cases e:t=m
  ·subst e;exact g2
  rw[h1 (t+1) (by omega) (by omega)];exact h.pos t ht
 by_cases e:k=m+1
 ·subst e
  have:=h.le (m+1) hk
  omega
 rw[h1 k hk e];exact h.le k hk
theorem GC (h:Def f n B) (hJ:Jn f n B) {m:Nat} (hF:Lq f (.swp m)) (hm:m+1<n):Jn (kf f m) n B:=by
 obtain⟨hnl,hs,hr⟩:=hF
 have hA: ∀a,a<n->(f a a).natAbs<=cN n B:=by
  rcases hJ with hA|⟨i,hi,hA,hr1,_⟩
  ·exact hA
  intro a ha
  by_cases e:a=i
  ·subst e
   rcases Nat.lt_trichotomy a (m+1)with h'|h'|h'
   ·exact pZ h ha (hr a h').1
   ·subst h';exact pZ h ha hs
   exact absurd ((hr1 (m+1) h').2 (by omega)) hnl
  exact hA a ha e
 exact .inl fun a ha=>hA _ (ot hm ha)
def prD (f:Nat->Nat->Int):Nat->Nat
 |0=>1
 |k+1=>prD f k*(dk f (k+1)).natAbs
theorem pW {g:Nat->Nat->Int}: ∀k,(∀t,t<k->dk g (t+1)=dk f (t+1))->prD g k=prD f k
 |0,_=>rfl
 |k+1,h=>by rw[prD,prD,pW k (fun t ht=>h t (by omega)),h k (by omega)]
theorem Fm (h:Def f n B): ∀k,k<=n->prD f k<=B^k
 |0,_=>by simp[prD]
 |k+1,hk=>by rw[prD,Nat.pow_succ];exact Nat.mul_le_mul (Fm h k (by omega)) (h.le (k+1) hk)
theorem xV (h:Def f n B) {m:Nat} (hm:m+1<n) (hl: ¬rb f (m+1)): ∀k,m<k->k<=n->4*prD (kf f m) k<=3*prD f k
 |k+1,hk,hkn=>by
  obtain⟨h1,_⟩:=mY h.sym h.pos hm
  obtain⟨g1,g2⟩:=uR h hm hl
  have p:=h.pos m (by omega)
  rw[prD,prD]
  by_cases e:k=m
  ·subst e
   rw[pW k (fun t ht=>h1 (t+1) (by omega) (by omega)),Nat.mul_left_comm,Nat.mul_left_comm 3]
   exact aJ _ (by omega)
  have ih:=xV h hm hl k (by omega) (by omega)
  rw[h1 (k+1) hkn (by omega),<- Nat.mul_assoc,<- Nat.mul_assoc]
  exact Nat.mul_le_mul_right _ ih
end
/-! Bounds of the minors of a matrix of small entries. -/
theorem EG {r:Nat->Int} (hr: ∀c,(r c).natAbs<=9) {M:Nat}: ∀(cs:List Nat) (N:Nat) (F:List Nat->Int),cs.length<=N->(∀l,l.length<=N->(F l).natAbs<=M)->(fk r F cs).natAbs<=cs.length*(9*M)
 |[],_,_,_,_=>by simp[fk]
 |c::cs,N,F,hN,hF=>by
  rw[fk]
  have h1:=Int.natAbs_sub_le (r c*F cs) (fk r (fun l=>F (c::l)) cs)
  have h2:=EG hr cs (N-1) (fun l=>F (c::l)) (by simp at hN;omega) (fun l hl=>hF (c::l) (by simp at hN⊢;omega))
  rw[Int.natAbs_mul]at h1
  have h3:=Nat.mul_le_mul (hr c) (hF cs (by simp at hN;omega))
  rw[List.length_cons,Nat.add_mul,Nat.one_mul]
  omega
theorem Jf {f:Nat->Nat->Int} (hf: ∀a b,(f a b).natAbs<=9): ∀k l,l.length<=8->(om f k l).natAbs<=72^k
 |0,l,_=>by simp[om]
 |k+1,l,hl=>by
  rw[om]
  have:=EG (hf k) l 8 (om f k) hl (fun l hl=>Jf hf k l hl)
  have h2:l.length*(9*72^k)<=8*(9*72^k):=Nat.mul_le_mul_right _ hl
  rw[Nat.pow_succ]
  omega
theorem AG: ∀k,(mt k).length=k
 |0=>rfl
 |k+1=>by rw[mt,List.length_cons,AG k]
abbrev bB:Nat:=722204136308736
theorem K7 {f:Nat->Nat->Int} (hf: ∀a b,(f a b).natAbs<=9) {k:Nat} (hk:k<=8):(dk f k).natAbs<=bB:=by
 have h1:=Jf hf k (mt k) (by rw[AG];exact hk)
 have h2:72^k<=72^8:=Nat.pow_le_pow_right (by omega) hk
 have h3:(72:Nat)^8=bB:=by decide
 unfold dk
 omega
end
section
structure tf (n:Nat) (f0 f t:Nat->Nat->Int) (s adds:Nat):Prop where
 dfn:Def f n bB
 jn:Jn f n bB
 det:dk f n=dk f0 n
 pot:4^s*prD f n<=3^s*bB^8
 cnt:adds<=28*s+rankF f n
 szt: ∀a b,a<n->b<n->Sz (t a b) (1+45*adds)
theorem EF: ∀n,n<9->lM n bB+1<4294967296^41:=by decide+kernel
theorem KG {n:Nat} (h:n<=8):s7 n<=28:=aI (jO h) (by decide)
section
variable {n:Nat} {f0 f t:Nat->Nat->Int} {s adds:Nat}
theorem tf.szc (h:tf n f0 f t s adds) (hn:n<=8) {i j:Nat} (hi:i<n) (hj:j<i):Sz (cF f i j) 41:=by
 rw[D2 h.dfn (by omega)]
 have h1:=Fq (l:=bk f j i j) (h.dfn.pos j (by omega))
 have h2:=h.jn.lam h.dfn (by decide) i j hi hj
 have h3:=EF n (by omega)
 unfold Sz
 rw[Int.natAbs_neg]
 generalize 4294967296^41=p at*
 omega
theorem Dd {c:Ch} (h:yc f n=some c):rankF f n=xX c:=by unfold rankF;rw[h]
theorem tf.add (h:tf n f0 f t s adds) (hn:n<=8) {i j:Nat} (hc:yc f n=some (.add i j)):tf n f0 (ig f i j (cF f i j)) (zD n t (Lu i j (cF f i j))) s (adds+1)/\rankF f n<rankF (ig f i j (cF f i j)) n:=by
 obtain⟨hF,hi⟩:=mb hc
 have hi:i<n:=hi
 obtain⟨hji,hns,hs,hr⟩:=id hF
 have hrk:rankF f n<rankF (ig f i j (cF f i j)) n:=by
  rw[Dd hc]
  exact In hji hi (fun i' hi'=>uH h.dfn _ hji hi hi' (hr i' hi')) (fun j' h1 h2=>wn h.dfn hji hi h1 h2 (fun h3=>hs j' h3 h2))
 obtain⟨g1,_⟩:=jU h.dfn.sym h.dfn.ne (cF f i j) hji hi
 have hcn:=h.cnt
 refine⟨⟨h.dfn.add _ hji hi,JB h.dfn (by decide) h.jn hF hi,by rw[g1 n (ai _)];exact h.det,by rw[pW n (fun t ht=>g1 (t+1) (by omega))];exact h.pot,by omega,fun a b ha hb=>?_⟩,hrk⟩
 rw[J8 (by omega) (by omega) t a b hb]
 have z1:=h.szt a b ha hb
 split
 ·have z2:=(h.szc hn hi hji).mul (h.szt a j ha (by omega))
  exact(Sz.add (z1.mono (l:=41+(1+45*adds)) (by omega)) z2).mono (by omega)
 rw[Int.add_zero];exact z1.mono (by omega)
theorem tf.swap (h:tf n f0 f t s adds) (hn:n<=8) {m:Nat} (hc:yc f n=some (.swp m)):tf n f0 (kf f m) (zD n t (L8 m)) (s+1) adds:=by
 obtain⟨hF,hm⟩:=mb hc
 have hm:m+1<n:=hm
 obtain⟨hnl,_,_⟩:=id hF
 obtain⟨g1,_⟩:=mY h.dfn.sym h.dfn.pos hm
 have hcn:=h.cnt
 have h3:=Fs f n
 have h4:=KG hn
 refine⟨h.dfn.swap hm hnl,GC h.dfn h.jn hF hm,by rw[g1 n (ai _) (by omega)];exact h.det,?_,by omega,fun a b ha hb=>?_⟩
 ·have p:=xV h.dfn hm hnl n (by omega) (ai _)
  have q:=aJ (4^s) p
  have e1:4^(s+1)*prD (kf f m) n=4^s*(4*prD (kf f m) n):=by rw[Nat.pow_succ,Nat.mul_assoc]
  have e2:4^s*(3*prD f n)=3*(4^s*prD f n):=Nat.mul_left_comm _ _ _
  have e3:3^(s+1)*bB^8=3*(3^s*bB^8):=by rw[Nat.pow_succ,Nat.mul_comm (3^s) 3,Nat.mul_assoc]
  rw[e1,e3]
  rw[e2]at q
  exact aI q (aJ 3 h.pot)
 rw[J9 hm t a b hb];exact h.szt a _ ha (ot hm hb)
theorem tf.start (hn1:1<=n) (hn:n<=8) (hs:SymF f n) (hp:BZ f n) (hb: ∀a b,(f a b).natAbs<=9) (ht: ∀a b,a<n->b<n->Sz (t a b) 1):tf n f f t 0 0:=by
 have hpos: ∀k,k<n->0<dk f (k+1):=fun k hk=>(Fj hp k hk).1
 have hdef:Def f n bB:=⟨hs,hpos,fun k hk=>K7 hb (by omega)⟩
 refine⟨hdef,.inl fun a ha=>aI (hb a a) ?_,rfl,?_,by omega,fun a b ha hb=>(ht a b ha hb).mono (by omega)⟩
 ·unfold cN
  exact aI (show 9<=bB+bB*bB by decide) (Nat.le_mul_of_pos_right _ (Nat.pow_pos (by omega)))
 simp only[Nat.pow_zero,Nat.one_mul]
 exact aI (Fm hdef n (ai _)) (Nat.pow_le_pow_right (by decide) hn)
end
end
end Go.Proofs.YtfgeomlagfomgaaGreatDoor
