/-
  Part 12 of a proof (walks and plain facts).
-/
import Derived.Test.YtpgghglbpcabkaaGreatQ10
set_option linter.all false
set_option maxRecDepth 100000
set_option maxHeartbeats 64000000
namespace Go.Proofs.YtpgghglbpcabkaaGreat
open Go.RowKit
abbrev kC (l:List Int):TV:= .one (.p (.sl (ls fZ l)))
theorem Ia (i j:Nat) (f:Nat->Nat->Int):((List.range j++[i]).map fun r=>(List.range (j+1)).map (f r))=cd (j+1) (j+1) (lK f i j):=by
 rw[cd,List.range_succ,List.map_append,List.map_append]
 congr 1
 ·refine List.map_congr_left fun r hr=>?_
  have:=List.mem_range.1 hr
  rw[<- List.range_succ]
  exact lw (m:=j+1) fun c _=>by unfold lK;rw[if_pos this]
 ·simp only[List.map_cons,List.map_nil]
  rw[<- List.range_succ]
  congr 1
  exact lw (m:=j+1) fun c _=>by unfold lK;rw[if_neg (by omega)]
theorem A4 {n i j:Nat} {f:Nat->Nat->Int} (hi:i<n) (hj:j<n) (hf: ∀i j,i<n->j<n->Sz (f i j) 1024): ∀r c,r<j+1->c<j+1->Sz (lK f i j r c) 1024:=fun r c hr hc=>by
 unfold lK
 split
 ·exact hf r c (by omega) (by omega)
 ·exact hf i c hi (by omega)
theorem zE {n i j:Nat} {f:Nat->Nat->Int} (hn:n<=16) (hi:i<n) (hj:j<n) (hf: ∀i j,i<n->j<n->Sz (f i j) 1024):Sz (lam f i j) 67174400:=
 kT (by omega) (A4 hi hj hf)
theorem xp {n k:Nat} {f:Nat->Nat->Int} (hn:n<=16) (hk:k<=n) (hf: ∀i j,i<n->j<n->Sz (f i j) 1024):Sz (dd f k) 67174400:=by
 unfold dd
 split
 ·exact mr (by omega)
 ·exact kT (by omega) fun i j hi hj=>hf i j (by omega) (by omega)
theorem rx (n:Nat) (f:Nat->Nat->Int) (i j:Nat) (hn:n<=16) (hi:i<n) (hj:j<n) (hf: ∀i j,i<n->j<n->Sz (f i j) 1024):
  CallC Tryz.prog 106 [ci (cd n n f),.raw (.int .i64 (i:Int)),.raw (.int .i64 (j:Int))] ⟨[],tZ (lam f i j)⟩:=by
 have c2:=wY n n f (List.range j++[i]) (List.range (j+1)) hn hn (fun x hx=>by
  rcases List.mem_append.1 hx with h|h
  ·have:=List.mem_range.1 h;omega
  ·have:x=i:=by simpa using h
   omega) (fun x hx=>by have:=List.mem_range.1 hx;omega) (by simp;omega) (by simp;omega)
 rw[Ia]at c2
 have c3:=gF (j+1) (lK f i j) (by omega) (by omega) (A4 hi hj hf)
 refine ax Tryz.func106 rfl (by kernel_rfl) ?_;rw[Tryz.ntmps106]
 (refine aa [] fun K hK=>?_;simp(disch:=omega) only[kc,ab,ci,Nat.reduceAdd,List.replicate,bu,aN,aC,bi,Value.oneCell',bH];apply hK)
 (refine aa [] fun K hK=>?_;simp(disch:=omega) only[kc,ab,ac,Value.oneCell'];apply hK)
 (refine ae (aa [] fun K hK=>?_);simp(disch:=omega) only[kc,ab,ac,Value.oneCell'];apply hK)
 refine bD (G:=mz j) (fun g=>⟨[ci (cd n n f),.raw (.int .i64 (i:Int)),.raw (.int .i64 (j:Int)),jk,jk,jk,.one (.ptr 6 0 0 0),.one (.sl 18 0 0 g.i),.one (.sl 22 0 0 g.i),.raw (.int .i64 (g.i:Int)),jk,jk,jk,jk,jk,jk,jk,jk,jk,jk,jk,jk,jk,jk,jk,jk,jk,jk,jk,jk,jk,jk,jk,jk],Hm [(6,qp),(18,[⟨3,1,lc fN (List.range g.i)⟩]),(22,[⟨3,1,lc fN (List.range g.i)⟩])]⟩) (fun g=>j-g.i) ⟨0,by omega⟩ ?_ ?_
 ·refine(fG (k:=7) (d:=18) 3 1 (by omega) rfl rfl).trans ((fG (k:=8) (d:=22) 3 1 (by omega) rfl rfl).trans (aj ⟨rfl,rfl,rfl,trivial⟩ ?_))
  simp[b9,bo,bj]
 ·rintro⟨k,hk⟩
  simp only
  by_cases hm:k<j
  ·(refine ae (aa [] fun K hK=>?_);simp(disch:=omega) only[kc,ab,Nat.reduceAdd,ci,Hm,ak,ah,bA];apply hK)
   refine af rfl (fun _=>aq ?_) (fun h=>by simp at h<;>omega)
   refine ae (aI ?_)
   (refine aa [] fun K hK=>?_;simp(disch:=omega) only[kc,ab,Nat.reduceAdd,b8,aN,aC,fh,mv,lD,fW,cellsOf,isPure,Nat.reduceMul,Nat.reduceLeDiff,List.contains_nil,ka,bH,cW,iX,bJ,newsOf,Nat.reduceEqDiff,cP,tC,eI,eJ,List.length_range,ef,eZ,and_true,d7,em,lZ,df,aS,aT,Nat.reduceBEq];apply hK)
   ((refine aU [] [] (by simp) fun K hK=>?_);simp(disch:=omega) only[kc,ab,Nat.reduceAdd,b8,aN,aC,fh,mv,lD,fW,cellsOf,isPure,Nat.reduceMul,Nat.reduceLeDiff,List.contains_nil,ka,bH,cW,iX,bJ,newsOf,aJ,Nat.reduceEqDiff,cP,tC,eI,eJ,List.length_range,ef,eZ,and_true,d7,em,lZ,df,aS,aT,Nat.reduceBEq];apply hK)
   show bT _ _ _ _
   ((refine aU [] [] (by simp) fun K hK=>?_);simp(disch:=omega) only[kc,ab,Nat.reduceAdd,ak,ac,Value.oneCell',ah,bC];apply hK)
   refine⟨⟨k+1,by omega⟩,by simp only;omega,aj ⟨rfl,?_,?_,trivial⟩ ?_⟩
   ·rw[List.range_succ];rfl
   ·rw[List.range_succ];rfl
   ·simp[b9,bo,bj]
  ·have hkj:k=j:=by omega
   subst hkj
   (refine ae (aa [] fun K hK=>?_);simp(disch:=omega) only[kc,ab,Nat.reduceAdd,ci,Hm,ak,ah,bf];apply hK)
   refine af rfl (fun h=>by simp at h<;>omega) (fun _=>bv ?_)
   show bT _ _ _ _
   (refine BU 9 [⟨9,_,_,_,c2⟩,⟨10,_,_,_,c3⟩] [] (by simp) (by decide) fun K hK=>?_;simp(disch:=omega) only[kc,ci,qR,tZ,ar.a,ab,Nat.reduceAdd,b8,aN,aC,fh,mv,lD,fW,cellsOf,isPure,Nat.reduceMul,Nat.reduceLeDiff,List.contains_nil,ka,bH,cW,iX,bJ,newsOf,Nat.reduceEqDiff,cP,tC,eI,eJ,List.length_range,ef,eZ,and_true,d7,em,lZ,df,aS,aT,Nat.reduceBEq,aJ];apply hK)
   refine⟨⟨[jk,jk,jk,jk,jk,jk,.one (.ptr 6 0 0 0),jk,jk,jk,jk,jk,jk,jk,jk,jk,jk,jk,jk,jk,jk,jk,jk,ci (cd n n f),jk,jk,jk,qR (List.range k++[i]),jk,jk,jk,qR (List.range (k+1)),jk,jk],Hm [(6,qp)]⟩,(cQ 18 (dH rfl)).trans ((cQ 22 (dH rfl)).trans (aj ⟨rfl,trivial⟩ ?_)),by simp,?_⟩
   ·simp[b9,bo,bj,gH,fu,aJ,Hm,eB,d8,List.range_succ,List.take_of_length_le]
   ·(intro K hK;simp(disch:=omega) only[kc,ci,qR,tZ,ar.a,ab,Nat.reduceAdd,Hm,ai,aN,aC,List.find?_cons,aD,aX,CallRes.plain,aF,aH,ap,noRefTV,am,aG,aE,Nat.reduceBEq,az,df,bJ,aM,cellsOf,Nat.le_refl,isPure,bH,putCells,aS,aT];apply hK)
    rw[<- lam]
    (refine ay ⟨.inr rfl,aO rfl ?_ rfl⟩;simp(disch:=omega) only[kc,bE,Tryz.results106,aP,aJ,cP,aA,aM,aW,Nat.reduceAdd,Nat.le_refl,tZ])
theorem oR (n:Nat) (f:Nat->Nat->Int) (k:Nat) (hn:n<=16) (hk:k<=n):
  CallC Tryz.prog 107 [kC (wR n f),.raw (.int .i64 (k:Int))] ⟨[],tZ (dd f k)⟩:=by
 have c1:=gB 1 (by omega) (by omega)
 by_cases h0:k=0
 ·subst h0
  rw[show dd f 0=1 from rfl]
  refine ax Tryz.func107 rfl (by kernel_rfl) ?_;rw[Tryz.ntmps107]
  (refine aa [] fun K hK=>?_;simp(disch:=omega) only[kc,ab,kC,Nat.reduceAdd,List.replicate,bu,aN,aC,bi,Value.oneCell',bH];apply hK)
  (refine ae (aa [] fun K hK=>?_);simp(disch:=omega) only[kc,ab,ak,ac,Value.oneCell',ah,bA];apply hK)
  refine af rfl (fun _=>?_) (fun h=>by simp at h)
  (refine aa [⟨0,_,_,_,c1⟩] fun K hK=>?_;simp(disch:=omega) only[kc,tZ,bf,ar.a,ab,ai,aN,aC,List.find?_cons,aD,ac,Value.oneCell',aX,CallRes.plain,aF,aH,ap,noRefTV,am,aG,aE,az,df,bJ,aM,aJ,cellsOf,Nat.reduceAdd,Nat.le_refl,isPure,bH,putCells,aS,aT];apply hK)
  (refine ay ⟨.inr rfl,aO rfl ?_ rfl⟩;simp(disch:=omega) only[kc,bE,Tryz.results107,aP,aJ,cP,aA,aM,aW,Nat.reduceAdd,Nat.le_refl,tZ,bf])
 ·rw[show dd f k=detF k f from if_neg h0]
  have e1:((k:Int)-1).toNat=k-1:=by omega
  have a1:(wR n f)[k-1]?=some (detF k f):=by rw[bK _ (by omega),show k-1+1=k by omega]
  refine ax Tryz.func107 rfl (by kernel_rfl) ?_;rw[Tryz.ntmps107]
  (refine aa [] fun K hK=>?_;simp(disch:=omega) only[kc,ab,kC,Nat.reduceAdd,List.replicate,bu,aN,aC,bi,Value.oneCell',bH];apply hK)
  (refine ae (aa [] fun K hK=>?_);simp(disch:=omega) only[kc,ab,ak,ac,Value.oneCell',ah,bf];apply hK)
  refine af rfl (fun h=>by simp at h<;>omega) (fun _=>aq ?_)
  show bT _ _ _ _
  (refine aa [] fun K hK=>?_;simp(disch:=omega) only[kc,ab,Nat.reduceAdd,ak,ac,Value.oneCell',ah,bC,ag,au,ao,e1,bL,bG,a1,fZ,aM,aA,aW,Nat.le_refl,az,df,bJ,aJ,cellsOf,isPure,bH,putCells,aS,aT];apply hK)
  (refine ay ⟨.inr rfl,aO rfl ?_ rfl⟩;simp(disch:=omega) only[kc,bE,Tryz.results107,aP,aJ,cP,aA,aM,aW,Nat.reduceAdd,Nat.le_refl,tZ])
theorem Av (n:Nat) (f:Nat->Nat->Int) (i j:Nat) (hn:n<=16) (hi:i<n) (hj:j<n) (hf: ∀i j,i<n->j<n->Sz (f i j) 1024):
  CallC Tryz.prog 102 [ci (cd n n f),kC (wR n f),.raw (.int .i64 (i:Int)),.raw (.int .i64 (j:Int))] ⟨[],.raw (.bool (decide (2*((lam f i j).natAbs:Int)<=dd f (j+1))))⟩:=by
 have hl:=zE hn hi hj hf
 have hd:=xp (k:=j+1) hn (by omega) hf
 have hla:Sz ((lam f i j).natAbs:Int) 67174400:=hl.le (by omega)
 have hm:Sz (2*((lam f i j).natAbs:Int)) (1+67174400):=Sz.mul (mq (by decide) (by omega)) hla
 have c1:=gB 2 (by omega) (by omega)
 have c2:=rx n f i j hn hi hj hf
 have c3:=Ay (lam f i j) (hl.mono (by omega))
 have c4:=lG 2 ((lam f i j).natAbs:Int) (mq (by decide) (by omega)) (hla.mono (by omega))
 have c5:=oR n f (j+1) hn (by omega)
 rw[show((j+1:Nat):Int)=(j:Int)+1 by omega]at c5
 have c6:=tV (2*((lam f i j).natAbs:Int)) (dd f (j+1)) (hm.mono (by omega)) (hd.mono (by omega))
 have hle:=vy (2*((lam f i j).natAbs:Int)) (dd f (j+1))
 generalize lam f i j=l at*
 generalize dd f (j+1)=d at*
 refine ax Tryz.func102 rfl (by kernel_rfl) ?_;rw[Tryz.ntmps102]
 (refine aa [] fun K hK=>?_;simp(disch:=omega) only[kc,ab,ci,kC,Nat.reduceAdd,List.replicate,ac,Value.oneCell'];apply hK)
 (refine aa [⟨0,_,_,_,c1⟩,⟨4,_,_,_,c2⟩,⟨5,_,_,_,c3⟩,⟨6,_,_,_,c4⟩,⟨10,_,_,_,c5⟩,⟨11,_,_,_,c6⟩] fun K hK=>?_;simp(disch:=omega) only[kc,tZ,bf,ci,kC,ar.a,ab,Nat.reduceAdd,ai,aN,aC,List.find?_cons,aD,ac,Value.oneCell',aX,CallRes.plain,aF,aH,ap,noRefTV,am,aG,aE,Nat.reduceBEq,isPure,ak,ah,bC,hle];apply hK)
 (refine ay ⟨.inr rfl,aO rfl ?_ rfl⟩;simp(disch:=omega) only[bE,Tryz.results102,aP,List.getElem?_cons_succ,List.getElem?_cons_zero])
theorem wX (n:Nat) (f:Nat->Nat->Int) (i:Nat) (hn:n<=16) (hi:i<n) (h0:0<i) (hf: ∀i j,i<n->j<n->Sz (f i j) 1024):
  CallC Tryz.prog 108 [ci (cd n n f),kC (wR n f),.raw (.int .i64 (i:Int))] ⟨[],.raw (.bool (decide (3*(dd f i*dd f i)<=4*(dd f (i-1)*dd f (i+1)+lam f i (i-1)*lam f i (i-1)))))⟩:=by
 have hl:=zE (j:=i-1) hn hi (by omega) hf
 have d0:=xp (k:=i-1) hn (by omega) hf
 have d1:=xp (k:=i) hn (by omega) hf
 have d2:=xp (k:=i+1) hn (by omega) hf
 have c0:=rx n f i (i-1) hn hi (by omega) hf
 have c1:=oR n f (i-1) hn (by omega)
 have c2:=oR n f (i+1) hn (by omega)
 have c3:=oR n f i hn (by omega)
 rw[show((i+1:Nat):Int)=(i:Int)+1 by omega]at c2
 rw[show((i-1:Nat):Int)=(i:Int)-1 by omega]at c0 c1
 have s4:=gB 4 (by omega) (by omega)
 have s3:=gB 3 (by omega) (by omega)
 generalize lam f i (i-1)=l at*
 generalize dd f (i-1)=a at*
 generalize dd f (i+1)=b at*
 generalize dd f i=d at*
 have z1:Sz (a*b) 134348800:=(d0.mul d2).mono (by omega)
 have z2:Sz (l*l) 134348800:=(hl.mul hl).mono (by omega)
 have z3:Sz (a*b+l*l) 134348801:=z1.add z2
 have z4:Sz (4*(a*b+l*l)) 134348802:=(Sz.mul (mq (k:=1) (by decide) (by omega)) z3).mono (by omega)
 have z5:Sz (d*d) 134348800:=(d1.mul d1).mono (by omega)
 have z6:Sz (3*(d*d)) 134348802:=(Sz.mul (mq (k:=1) (by decide) (by omega)) z5).mono (by omega)
 have m1:=lG a b (d0.mono (by omega)) (d2.mono (by omega))
 have m2:=lG l l (hl.mono (by omega)) (hl.mono (by omega))
 have m3:=tU (a*b) (l*l) (z1.mono (by omega)) (z2.mono (by omega))
 have m4:=lG 4 (a*b+l*l) (mq (by decide) (by omega)) (z3.mono (by omega))
 have m5:=lG d d (d1.mono (by omega)) (d1.mono (by omega))
 have m6:=lG 3 (d*d) (mq (by decide) (by omega)) (z5.mono (by omega))
 have m7:=tV (4*(a*b+l*l)) (3*(d*d)) (z4.mono (by omega)) (z6.mono (by omega))
 have hge:=GE (4*(a*b+l*l)) (3*(d*d))
 refine ax Tryz.func108 rfl (by kernel_rfl) ?_;rw[Tryz.ntmps108]
 (refine aa [] fun K hK=>?_;simp(disch:=omega) only[kc,ab,ci,kC,Nat.reduceAdd,List.replicate,ac,Value.oneCell'];apply hK)
 (refine aa [⟨4,_,_,_,c0⟩] fun K hK=>?_;simp(disch:=omega) only[kc,ci,tZ,ar.a,ab,Nat.reduceAdd,ak,ac,Value.oneCell',ah,bC,ai,aN,aC,List.find?_cons,aD,aX,CallRes.plain,aF,aH,ap,noRefTV,am,aG,aE,bu,bi,bH,az,df,bJ,aM,aJ,cellsOf,Nat.le_refl,isPure,putCells,aS,aT];apply hK)
 (refine bS bY [⟨0,_,_,_,s4⟩,⟨4,_,_,_,c1⟩,⟨8,_,_,_,c2⟩,⟨9,_,_,_,m1⟩,⟨12,_,_,_,m2⟩,⟨13,_,_,_,m3⟩,⟨14,_,_,_,m4⟩] [] (by kernel_rfl) (by simp) fun K hK=>?_;simp(disch:=omega) only[kc,tZ,bf,kC,ar.a,ab,Nat.reduceAdd,ai,aN,aC,List.find?_cons,aD,ac,Value.oneCell',aX,CallRes.plain,aF,aH,ap,noRefTV,am,aG,aE,ak,ah,bC,Nat.reduceBEq,isPure,au,aJ,cP,aA,aM,aW,Nat.le_refl,bu,bi,bH,Nat.reduceEqDiff,az,df,bJ,cellsOf,putCells,aS,aT];apply hK)
 (refine bS bY [⟨1,_,_,_,s3⟩,⟨4,_,_,_,c3⟩,⟨7,_,_,_,c3⟩,⟨8,_,_,_,m5⟩,⟨9,_,_,_,m6⟩,⟨10,_,_,_,m7⟩] [] (by kernel_rfl) (by simp) fun K hK=>?_;simp(disch:=omega) only[kc,tZ,bf,kC,ar.a,ab,Nat.reduceAdd,au,aJ,Nat.reduceEqDiff,cP,aA,aM,aW,Nat.le_refl,ai,aN,aC,List.find?_cons,aD,ac,Value.oneCell',aX,CallRes.plain,aF,aH,ap,noRefTV,am,aG,aE,Nat.reduceBEq,isPure,ak,ah,hge];apply hK)
 (refine ay ⟨.inr rfl,aO rfl ?_ rfl⟩;simp(disch:=omega) only[bE,Tryz.results108,aP,List.getElem?_cons_succ,List.getElem?_cons_zero])
structure K0 (n:Nat) (f:Nat->Nat->Int) where
 i:Nat
 hi:i<=n
 ok: ∀a,a<i->(∀b,b<a->SizF f a b)/\(0<a->LovF f a)
structure K1 (n i:Nat) (f:Nat->Nat->Int) where
 j:Nat
 hj:j<=i
 ok: ∀b,b<j->SizF f i b
theorem C6 (n:Nat) (f:Nat->Nat->Int) (hn1:1<=n) (hn:n<=16) (hf: ∀i j,i<n->j<n->Sz (f i j) 1024) (r:Bool) (hr:r=true↔IZ f n):
  CallC Tryz.prog 68 [ci (cd n n f)] ⟨[],.raw (.bool r)⟩:=by
 have hL:=pt n f hn1 hn hf
 have hml:=bQ n n f
 refine ax Tryz.func68 rfl (by kernel_rfl) ?_;rw[Tryz.ntmps68]
 (refine aa [] fun K hK=>?_;simp(disch:=omega) only[kc,ab,ci,List.replicate,ac,Value.oneCell'];apply hK)
 (refine aa [⟨1,_,_,_,hL⟩] fun K hK=>?_;simp(disch:=omega) only[kc,ci,Kd,ar.a,ab,Nat.reduceAdd,ai,aN,aC,List.find?_cons,aD,aX,CallRes.plain,aF,aH,ap,noRefTV,am,aG,aE,aV,ak];apply hK)
 (refine ae (aa [] fun K hK=>?_);simp(disch:=omega) only[kc,ab,Nat.reduceAdd,aw,au,aZ,aR,hml,ac,Value.oneCell'];apply hK)
 refine bD (G:=K0 n f) (fun g=>⟨[ci (cd n n f),jk,.raw (.bool false),kC (wR n f),jk,jk,jk,jk,jk,jk,jk,jk,jk,.raw (.int .i64 (n:Int)),.raw (.int .i64 (g.i:Int)),jk,jk,jk,jk,jk,jk,jk,jk,jk,jk,jk,jk,jk,jk,jk,jk,jk,jk,jk,jk,jk,jk,jk],Hm []⟩) (fun g=>n-g.i) ⟨0,by omega,fun a ha=>by omega⟩ ?_ ?_
 ·refine aj trivial ?_
  simp[b9,bo,bj]
 ·rintro⟨i,hi,ok⟩
  simp only
  by_cases hm:i<n
  ·(refine aa [] fun K hK=>?_;simp(disch:=omega) only[kc,ab,ci,kC,Hm,ak,ah,bA];apply hK)
   refine ae (af rfl (fun _=>aq ?_) (fun h=>by simp at h<;>omega))
   refine ae (aI ?_)
   (refine aa [] fun K hK=>?_;simp(disch:=omega) only[kc,ab];apply hK)
   (refine ae (aa [] fun K hK=>?_);simp(disch:=omega) only[kc,ab,ac,Value.oneCell'];apply hK)
   refine bD (G:=K1 n i f) (fun g=>⟨[ci (cd n n f),jk,.raw (.bool false),kC (wR n f),jk,.raw (.int .i64 (i:Int)),.raw (.int .i64 (g.j:Int)),jk,jk,jk,jk,jk,jk,.raw (.int .i64 (n:Int)),.raw (.int .i64 (i:Int)),jk,jk,jk,jk,jk,jk,jk,jk,jk,jk,jk,jk,jk,jk,jk,jk,jk,jk,jk,jk,jk,jk,jk],Hm []⟩) (fun g=>i-g.j) ⟨0,by omega,fun a ha=>by omega⟩ ?_ ?_
   ·refine aj trivial ?_
    simp[b9,bo,bj]
   ·rintro⟨j,hj,okj⟩
    simp only
    by_cases hm2:j<i
    ·have c1:=Av n f i j hn hm (by omega) hf
     by_cases hs:SizF f i j
     ·rw[decide_eq_true (show 2*((lam f i j).natAbs:Int)<=dd f (j+1)from hs)]at c1
      (refine ae (aa [] fun K hK=>?_);simp(disch:=omega) only[kc,ab,Nat.reduceAdd,ci,kC,Hm,ak,ah,bA];apply hK)
      refine af rfl (fun _=>aq ?_) (fun h=>by simp at h<;>omega)
      refine ae (aI ?_)
      (refine aa [⟨4,_,_,_,c1⟩] fun K hK=>?_;simp(disch:=omega) only[kc,ci,kC,ar.a,ab,Nat.reduceAdd,ai,aN,aC,List.find?_cons,aD,aX,CallRes.plain,aF,aH,ap,noRefTV,am,aG,aE,bW,ak,dc];apply hK)
      refine af rfl (fun h=>by simp at h) (fun _=>aq ?_)
      show bT _ _ _ _
      ((refine aU [] [] (by simp) fun K hK=>?_);simp(disch:=omega) only[kc,ab,Nat.reduceAdd,ak,ac,Value.oneCell',ah,bC];apply hK)
      refine⟨⟨j+1,by omega,fun b hb=>?_⟩,by simp only;omega,aj trivial ?_⟩
      ·by_cases e:b=j
       ·subst e;exact hs
       ·exact okj b (by omega)
      ·simp[b9,bo,bj]
     ·have hr0:r=false:=by
       cases r with
       |false=>rfl
       |true=>exact absurd ((hr.1 rfl i hm).1 j hm2) hs
      subst hr0
      rw[decide_eq_false (show ¬2*((lam f i j).natAbs:Int)<=dd f (j+1)from hs)]at c1
      (refine ae (aa [] fun K hK=>?_);simp(disch:=omega) only[kc,ab,Nat.reduceAdd,ci,kC,Hm,ak,ah,bA];apply hK)
      refine af rfl (fun _=>aq ?_) (fun h=>by simp at h<;>omega)
      refine ae (aI ?_)
      (refine aa [⟨4,_,_,_,c1⟩] fun K hK=>?_;simp(disch:=omega) only[kc,ci,kC,ar.a,ab,Nat.reduceAdd,ai,aN,aC,List.find?_cons,aD,aX,CallRes.plain,aF,aH,ap,noRefTV,am,aG,aE,bW,ak,dc,Bool.not_false];apply hK)
      refine af rfl (fun _=>?_) (fun h=>by simp at h)
      (refine aa [] fun K hK=>?_;simp(disch:=omega) only[kc,ab,ac,Value.oneCell'];apply hK)
      (refine ay ⟨.inr rfl,aO rfl ?_ rfl⟩;simp(disch:=omega) only[bE,Tryz.results68,aP,List.getElem?_cons_succ,List.getElem?_cons_zero])
    ·have hji:j=i:=by omega
     subst hji
     (refine ae (aa [] fun K hK=>?_);simp(disch:=omega) only[kc,ab,Nat.reduceAdd,ci,kC,Hm,ak,ah,bf];apply hK)
     refine af rfl (fun h=>by simp at h<;>omega) (fun _=>bv ?_)
     show bT _ _ _ _
     by_cases h0:0<j
     ·have c1:=wX n f j hn hm h0 hf
      by_cases hs:LovF f j
      ·rw[decide_eq_true (show 3*(dd f j*dd f j)<=4*(dd f (j-1)*dd f (j+1)+lam f j (j-1)*lam f j (j-1))from hs)]at c1
       (refine aa [⟨6,_,_,_,c1⟩] fun K hK=>?_;simp(disch:=omega) only[kc,ci,kC,ar.a,ab,Nat.reduceAdd,ak,ac,Value.oneCell',ah,bA,aB,ai,aN,aC,List.find?_cons,aD,aX,CallRes.plain,aF,aH,ap,noRefTV,am,aG,aE,bH,bW,dc,aQ];apply hK)
       refine af rfl (fun h=>by simp at h) (fun _=>aq ?_)
       show bT _ _ _ _
       ((refine aU [] [] (by simp) fun K hK=>?_);simp(disch:=omega) only[kc,ab,ak,ac,Value.oneCell',ah,bC];apply hK)
       refine⟨⟨j+1,by omega,fun a ha=>?_⟩,by simp only;omega,aj trivial ?_⟩
       ·by_cases e:a=j
        ·subst e;exact⟨okj,fun _=>hs⟩
        ·exact ok a (by omega)
       ·simp[b9,bo,bj]
      ·have hr0:r=false:=by
        cases r with
        |false=>rfl
        |true=>exact absurd ((hr.1 rfl j hm).2 h0) hs
       subst hr0
       rw[decide_eq_false (show ¬3*(dd f j*dd f j)<=4*(dd f (j-1)*dd f (j+1)+lam f j (j-1)*lam f j (j-1))from hs)]at c1
       (refine aa [⟨6,_,_,_,c1⟩] fun K hK=>?_;simp(disch:=omega) only[kc,ci,kC,ar.a,ab,Nat.reduceAdd,ak,ac,Value.oneCell',ah,bA,aB,ai,aN,aC,List.find?_cons,aD,aX,CallRes.plain,aF,aH,ap,noRefTV,am,aG,aE,bH,bW,dc,Bool.not_false,aQ];apply hK)
       refine af rfl (fun _=>?_) (fun h=>by simp at h)
       (refine aa [] fun K hK=>?_;simp(disch:=omega) only[kc,ab,ac,Value.oneCell'];apply hK)
       (refine ay ⟨.inr rfl,aO rfl ?_ rfl⟩;simp(disch:=omega) only[bE,Tryz.results68,aP,List.getElem?_cons_succ,List.getElem?_cons_zero])
     ·have hj0:j=0:=by omega
      subst hj0
      (refine aa [] fun K hK=>?_;simp(disch:=omega) only[kc,ab,Nat.reduceAdd,ak,ac,Value.oneCell',ah,bf,aB,ai,aN,aC,List.find?_nil,aD,bW,Option.map_none,aQ];apply hK)
      refine af rfl (fun h=>by simp at h) (fun _=>aq ?_)
      show bT _ _ _ _
      ((refine aU [] [] (by simp) fun K hK=>?_);simp(disch:=omega) only[kc,ab,ak,ac,Value.oneCell',ah,bC];apply hK)
      refine⟨⟨1,by omega,fun a ha=>?_⟩,by simp only;omega,aj trivial ?_⟩
      ·have:a=0:=by omega
       subst this
       exact⟨fun b hb=>by omega,fun h=>by omega⟩
      ·simp[b9,bo,bj]
  ·have hr1:r=true:=hr.2 fun a ha=>ok a (by omega)
   subst hr1
   (refine aa [] fun K hK=>?_;simp(disch:=omega) only[kc,ab,ci,kC,Hm,ak,ah,bf];apply hK)
   refine ae (af rfl (fun h=>by simp at h<;>omega) (fun _=>bv ?_))
   show bT _ _ _ _
   (refine aa [] fun K hK=>?_;simp(disch:=omega) only[kc,ab,ac,Value.oneCell'];apply hK)
   (refine ay ⟨.inr rfl,aO rfl ?_ rfl⟩;simp(disch:=omega) only[bE,Tryz.results68,aP,List.getElem?_cons_succ,List.getElem?_cons_zero])
def my (rows:List (List Int)) (x:List Int):Bool:=ch rows&&FitB rows.length x
theorem qc (A B:Option Addr) (c d:Nat) (rows:List (List Int)) (x:List Int) (w:World) (hR:jC .i64 w A rows) (hx:RdI .i64 w B x) (lr:rows.length<=9223372036854775807) (hc:rows.length<=c) (lx:x.length<=9223372036854775807):
  Calls Tryz.prog 82 #[.slice A rows.length c,.slice B x.length d] w fun e w'=>e= .returned (.bool (my rows x))/\Ext w w':=by
 have HR:=Lib.hid hR
 have HX:=Lib.hid hx
 clear hR hx
 cases hI:ch rows with
 |false=>
  have HV:Hid (my rows x=false):=Lib.hid (by simp[my,hI])
  go_enter Tryz.func82,Tryz.ntmps82
  go_wp2_with (go_at_call 34;refine(gJ A c rows _ HR.out lr hc).mono ?_;rintro e w1 ⟨rfl,he⟩)
  go_ret
  exact⟨fL HV.out.symm,he⟩
 |true=>
  have HV:Hid (my rows x=FitB rows.length x):=Lib.hid (by simp[my,hI])
  go_enter Tryz.func82,Tryz.ntmps82
  go_wp2_with (first|(go_at_call 34;refine(gJ A c rows _ HR.out lr hc).mono ?_;rintro e w1 ⟨rfl,he⟩;have HE:=Lib.hid he;clear he)|(go_at_call 36;refine(kk rows.length B d x _ (HX.out.ext HE.out) lx).mono ?_;rintro e w2 ⟨rfl,rfl⟩))
  go_ret
  exact⟨fL HV.out.symm,HE.out⟩
def iP (rows:List (List Int)) (x y:List Int):Value:=
 if my rows x=true/\FitB rows.length y=true then oI (fd x (dO rows y) x.length)else .tuple #[.int .i64 0,.bool false]
theorem CF (A B C:Option Addr) (c d d':Nat) (rows:List (List Int)) (x y:List Int) (w:World) (hR:jC .i64 w A rows) (hx:RdI .i64 w B x) (hy:RdI .i64 w C y) (lr:rows.length<=9223372036854775807) (hc:rows.length<=c) (lx:x.length<=9223372036854775807) (ly:y.length<=9223372036854775807):
  Calls Tryz.prog 40 #[.slice A rows.length c,.slice B x.length d,.slice C y.length d'] w fun e w'=>e= .returned (iP rows x y)/\Ext w w':=by
 have HR:=Lib.hid hR
 have HX:=Lib.hid hx
 have HY:=Lib.hid hy
 clear hR hx hy
 cases hI:my rows x with
 |false=>
  have HV:Hid (iP rows x y= .tuple #[.int .i64 0,.bool false]):=Lib.hid (by unfold iP;rw[if_neg (by simp[hI])])
  go_enter Tryz.func40,Tryz.ntmps40
  go_wp2_with (go_at_call 82;refine(qc A B c d rows x _ HR.out HX.out lr hc lx).mono ?_;rintro e w1 ⟨rfl,he⟩)
  go_ret2
  exact⟨by rw[HV.out];rfl,he⟩
 |true=>
  cases hF:FitB rows.length y with
  |false=>
   have HV:Hid (iP rows x y= .tuple #[.int .i64 0,.bool false]):=Lib.hid (by unfold iP;rw[if_neg (by simp[hF])])
   go_enter Tryz.func40,Tryz.ntmps40
   go_wp2_with (first|(go_at_call 82;refine(qc A B c d rows x _ HR.out HX.out lr hc lx).mono ?_;rintro e w1 ⟨rfl,he⟩;have HE:=Lib.hid he;clear he)|(go_at_call 36;refine(kk rows.length C d' y _ (HY.out.ext HE.out) ly).mono ?_;rintro e w2 ⟨rfl,rfl⟩))
   go_ret2
   exact⟨by rw[HV.out];rfl,HE.out⟩
  |true=>
   have HV:Hid (iP rows x y=oI (fd x (dO rows y) x.length)):=Lib.hid (by unfold iP;rw[if_pos ⟨hI,hF⟩])
   have hI':=hI
   unfold my at hI'
   rw[Bool.and_eq_true,fY]at hI'
   obtain⟨hr,hxl,hxb⟩:=hI'
   have hs:=ee hr
   have h8:rows.length<=8:=hs.2.1
   obtain⟨hyl,hyb⟩:=fY.1 hF
   have hxle:x.length<=rows.length:=by omega
   have hxge:rows.length<=x.length:=by omega
   have hyge:rows.length<=y.length:=by omega
   have HS:=Lib.hid hs
   have HYB:=Lib.hid hyb
   have HXB:=Lib.hid hxb
   have HA:=Lib.hid (pA hs hyb)
   have HAL:=Lib.hid (iB rows y)
   clear hr hxl hs hyl hyb hxb
   go_enter Tryz.func40,Tryz.ntmps40
   go_wp2_with (first|(go_at_call 82;refine(qc A B c d rows x _ HR.out HX.out lr hc lx).mono ?_;rintro e w1 ⟨rfl,he⟩;have HE:=Lib.hid he;clear he)|(go_at_call 36;refine(kk rows.length C d' y _ (HY.out.ext HE.out) ly).mono ?_;rintro e w2 ⟨rfl,rfl⟩))
   refine(pB A C c d' rows y _ (HR.out.ext HE.out) (HY.out.ext HE.out) (by omega) (fun i hi=>by rw[HS.out.2.2.1 i hi];exact hyge) ly).mono ?_
   rintro e w2 ⟨rfl,hrd,he2⟩
   have HE2:=Lib.hid (HE.out.trans he2)
   have HRD:=Lib.hid hrd
   clear hrd he2
   go_wp2_with fail
   have hcon:=vH B (some ⟨w1.heap.size,0,none⟩) d rows.length x (dO rows y) w2 (HX.out.ext HE2.out) HRD.out (by rw[HAL.out];exact hxle) (by omega) (by rw[HAL.out];omega) (fun i z hz=>iq HXB.out hz) HA.out
   rw[HAL.out]at hcon
   refine hcon.mono ?_
   rintro e w3 ⟨rfl,he3⟩
   have HE3:=Lib.hid (HE2.out.trans he3)
   clear he3 hcon
   have HD:Hid (∃a b,oI (fd x (dO rows y) x.length)= .tuple #[a,b]):=Lib.hid (by unfold oI;split<;>exact⟨_,_,rfl⟩)
   obtain⟨va,vb,hd⟩:=HD.out
   rw[hd]
   have HDD:=Lib.hid hd
   clear hd
   go_wp2_with fail
   go_ret2
   exact⟨by rw[HV.out,HDD.out];rfl,HE3.out⟩
theorem ET (A B:Option Addr) (c d:Nat) (rows:List (List Int)) (x:List Int) (w:World) (hR:jC .i64 w A rows) (hx:RdI .i64 w B x) (lr:rows.length<=9223372036854775807) (hc:rows.length<=c) (lx:x.length<=9223372036854775807):
  Calls Tryz.prog 15 #[.slice A rows.length c,.slice B x.length d] w fun e w'=>e= .returned (iP rows x x)/\Ext w w':=by
 have HD:Hid (∃a b,iP rows x x= .tuple #[a,b]):=Lib.hid (by unfold iP oI;split<;>(try split)<;>exact⟨_,_,rfl⟩)
 have hcon:=CF A B B c d d rows x x w hR hx hx lr hc lx lx
 obtain⟨va,vb,hd⟩:=HD.out
 rw[hd]at hcon
 rw[hd]
 have HC:=Lib.hid hcon
 clear hcon hd HD
 go_enter Tryz.func15,Tryz.ntmps15
 go_wp2_with (go_at_call 40;refine HC.out.mono ?_;rintro e w1 ⟨rfl,he⟩)
 go_ret2
 exact⟨rfl,he⟩
def pr (z:Int):Prop:= -9223372036854775808<=z/\z<=9223372036854775807
theorem pr.sz {z:Int} (h:pr z) {k:Nat} (hk:2<=k):Sz z k:=by
 have:Sz z 2:=by
  unfold Sz
  have:=h.1
  have:=h.2
  rw[show(4294967296:Nat)^2=18446744073709551616 by decide]
  omega
 exact this.mono hk
def MI (M:List (List Int)):Prop:= ∀r∈M,∀z∈r,pr z
theorem MI.ent {M:List (List Int)} (h:MI M) (i j:Nat):pr (ent M i j):=by
 simp only[Go.Proofs.YtpgghglbpcabkaaGreat.ent,List.getD_eq_getElem?_getD]
 cases hr:M[i]? with
 |none=>simp[pr]
 |some r=>
  simp only[Option.getD_some]
  cases hz:r[j]? with
  |none=>simp[pr]
  |some z=>exact h r (List.mem_of_getElem? hr) z (List.mem_of_getElem? hz)
theorem JI {n c:Nat} {f:Nat->Nat->Int} (hn:1<=n):Sq (cd n c f)↔n=c:=by
 unfold Sq
 rw[bQ]
 have e: ∀i,i<n->((cd n c f).getD i []).length=c:=fun i hi=>by
  rw[List.getD_eq_getElem?_getD,cS _ _ hi,Option.getD_some,cq]
 exact⟨fun h=>by rw[<- e 0 (by omega),h 0 (by omega)],fun h i hi=>by rw[e i hi,h]⟩
theorem rz {f g:Nat->Nat->Int} {n:Nat} (h: ∀i j,i<n->j<n->f i j=g i j) (hf:qH f n):qH g n:=by
 obtain⟨h1,h2,h3,h4⟩:=hf
 have ed: ∀k,k<=n->dk g k=dk f k:=fun k hk=>ki fun i j hi hj=>(h i j (by omega) (by omega)).symm
 have eb: ∀t i,t<n->i<n->bk g t i t=bk f t i t:=fun t i ht hi=>by
  have e1:dk (lK g i t) (t+1)=bk g t i t:=y8 (fun r c hr hc=>by unfold lK;rw[if_pos hr]) (fun c hc=>by unfold lK;rw[if_neg (by omega)])
  have e2:dk (lK f i t) (t+1)=bk f t i t:=y8 (fun r c hr hc=>by unfold lK;rw[if_pos hr]) (fun c hc=>by unfold lK;rw[if_neg (by omega)])
  rw[<- e1,<- e2]
  refine ki fun r c hr hc=>?_
  unfold lK
  split
  ·exact(h r c (by omega) (by omega)).symm
  ·exact(h i c hi (by omega)).symm
 refine⟨fun i hi j hj=>by rw[<- h i j hi hj,<- h j i hj hi];exact h1 i hi j hj,fun k hk=>by rw[ed (k+1) (by omega)];exact h2 k hk,by rw[ed n (by omega)];exact h3,fun t ht=>⟨fun i hi hti=>?_,?_⟩⟩
 ·have:=(h4 t ht).1 i hi hti
  rw[ed (t+1) (by omega),eb t i (by omega) hi];exact this
 ·have:=(h4 t ht).2
  unfold Gi at*
  rw[ed (t+1) (by omega),ed t (by omega),ed (t+1+1) (by omega),eb t (t+1) (by omega) (by omega)];exact this
theorem Dx {n c:Nat} {f:Nat->Nat->Int} (hn1:1<=n):IY (cd n c f)↔n=c/\n<=8/\qH f n:=by
 unfold IY
 rw[bQ,JI hn1]
 constructor
 ·rintro⟨_,h8,rfl,hr⟩
  exact⟨rfl,h8,rz (fun i j hi hj=>oK f hi hj) hr⟩
 ·rintro⟨rfl,h8,hr⟩
  exact⟨hn1,h8,rfl,rz (fun i j hi hj=>(oK f hi hj).symm) hr⟩
theorem jF (M:List (List Int)) (hM:MI M):CallC Tryz.prog 29 [ck M] ⟨[],.raw (.bool (ch M))⟩:=by
 have hr:=ib M
 generalize ch M=r at*
 by_cases hS:vg M
 ·obtain⟨n,c,f,rfl,hn1,hn,hc1,hc,hf⟩: ∃n c f,M=cd n c f/\1<=n/\n<=16/\1<=c/\c<=16/\ ∀i j:Nat,pr (f i j):=by
   have h0:=gI (M:=M) hS.1
   have hh:=hS.2.2 _ (List.mem_of_getElem? h0)
   exact⟨M.length,(M.headD []).length,ent M,qT hS,hS.1,hS.2.1,hh.1,hh.2.1,fun i j=>hM.ent i j⟩
  rw[Dx hn1]at hr
  have hF:=nk n c f hn1 hn hc1 hc (fun i j _ _=>hf i j)
  obtain⟨e,he,hV⟩:=nr n c f hn1 hn hc1 hc (fun i j _ _=>(hf i j).sz (by omega))
  by_cases h1:e=0
  ·obtain⟨rfl,h8,hs,hp⟩:=he.1 h1
   subst h1
   have hD:=ym n f hn1 hn (fun i j _ _=>(hf i j).sz (by omega))
   by_cases h2:detF n f<=10000
   ·rw[decide_eq_true h2]at hD
    have hR:=C6 n f hn1 hn (fun i j _ _=>(hf i j).sz (by omega)) r (by
     rw[hr,<- rb hn1]
     exact⟨fun h=>h.2.2.2.2.2,fun h=>⟨rfl,h8,hs,hp,h2,h⟩⟩)
    refine ax Tryz.func29 rfl (by kernel_rfl) ?_;rw[Tryz.ntmps29]
    (refine aa [] fun K hK=>?_;simp(disch:=omega) only[kc,ab,ck,List.replicate,ac,Value.oneCell'];apply hK)
    (refine aa [⟨1,_,_,_,hF⟩] fun K hK=>?_;simp(disch:=omega) only[kc,ck,xy,ar.a,ab,Nat.reduceAdd,ai,aN,aC,List.find?_cons,aD,aX,CallRes.plain,aF,aH,ap,noRefTV,am,aG,aE,aV,ak];apply hK)
    (refine aa [⟨3,_,_,_,hV⟩,⟨8,_,_,_,hD⟩,⟨12,_,_,_,hR⟩] fun K hK=>?_;simp(disch:=omega) only[kc,ci,ar.a,ab,Nat.reduceAdd,aB,ai,aN,aC,List.find?_cons,aD,aX,CallRes.plain,aF,aH,ap,noRefTV,am,aG,aE,bH,ak,ac,Value.oneCell',ah,bA,aQ,Nat.reduceBEq];apply hK)
    (refine ay ⟨.inr rfl,aO rfl ?_ rfl⟩;simp(disch:=omega) only[bE,Tryz.results29,aP,List.getElem?_cons_succ,List.getElem?_cons_zero])
   ·have hr0:r=false:=by
     cases r with
     |false=>rfl
     |true=>exact absurd ((rb hn1).2 (hr.1 rfl).2.2).2.2.1 h2
    subst hr0
    rw[decide_eq_false h2]at hD
    refine ax Tryz.func29 rfl (by kernel_rfl) ?_;rw[Tryz.ntmps29]
    (refine aa [] fun K hK=>?_;simp(disch:=omega) only[kc,ab,ck,List.replicate,ac,Value.oneCell'];apply hK)
    (refine aa [⟨1,_,_,_,hF⟩] fun K hK=>?_;simp(disch:=omega) only[kc,ck,xy,ar.a,ab,Nat.reduceAdd,ai,aN,aC,List.find?_cons,aD,aX,CallRes.plain,aF,aH,ap,noRefTV,am,aG,aE,aV,ak];apply hK)
    (refine aa [⟨3,_,_,_,hV⟩,⟨8,_,_,_,hD⟩] fun K hK=>?_;simp(disch:=omega) only[kc,ci,ar.a,ab,Nat.reduceAdd,aB,ai,aN,aC,List.find?_cons,aD,aX,CallRes.plain,aF,aH,ap,noRefTV,am,aG,aE,bH,ak,ac,Value.oneCell',ah,bA,aQ,Nat.reduceBEq,List.find?_nil];apply hK)
    (refine ay ⟨.inr rfl,aO rfl ?_ rfl⟩;simp(disch:=omega) only[bE,Tryz.results29,aP,List.getElem?_cons_succ,List.getElem?_cons_zero])
  ·have hr0:r=false:=by
    cases r with
    |false=>rfl
    |true=>
     obtain⟨g1,g2,g3⟩:=hr.1 rfl
     subst g1
     obtain⟨g4,g5,_⟩:=(rb hn1).2 g3
     exact absurd (he.2 ⟨rfl,g2,g4,g5⟩) h1
   subst hr0
   refine ax Tryz.func29 rfl (by kernel_rfl) ?_;rw[Tryz.ntmps29]
   (refine aa [] fun K hK=>?_;simp(disch:=omega) only[kc,ab,ck,List.replicate,ac,Value.oneCell'];apply hK)
   (refine aa [⟨1,_,_,_,hF⟩] fun K hK=>?_;simp(disch:=omega) only[kc,ck,xy,ar.a,ab,Nat.reduceAdd,ai,aN,aC,List.find?_cons,aD,aX,CallRes.plain,aF,aH,ap,noRefTV,am,aG,aE,aV,ak];apply hK)
   (refine aa [⟨3,_,_,_,hV⟩] fun K hK=>?_;simp(disch:=omega) only[kc,ci,ar.a,ab,Nat.reduceAdd,aB,ai,aN,aC,List.find?_cons,aD,aX,CallRes.plain,aF,aH,ap,noRefTV,am,aG,aE,bH,ak,ac,Value.oneCell',ah,bf,aQ,Nat.reduceBEq,List.find?_nil];apply hK)
   (refine ay ⟨.inr rfl,aO rfl ?_ rfl⟩;simp(disch:=omega) only[bE,Tryz.results29,aP,List.getElem?_cons_succ,List.getElem?_cons_zero])
 ·have hF:=qj M hS
  have hr0:r=false:=by
   cases r with
   |false=>rfl
   |true=>
    obtain⟨g1,g2,g3,_⟩:=hr.1 rfl
    refine absurd ⟨g1,by omega,fun x hx=>?_⟩ hS
    obtain⟨i,hi⟩:=List.mem_iff_getElem?.1 hx
    have hl: ∀(i:Nat) x,M[i]?=some x->x.length=M.length:=fun i x hi=>by
     have:=g3 i (List.getElem?_eq_some_iff.1 hi).1
     rwa[List.getD_eq_getElem?_getD,hi]at this
    rw[rOk,hl i x hi,hl 0 _ (gI g1)]
    omega
  subst hr0
  refine ax Tryz.func29 rfl (by kernel_rfl) ?_;rw[Tryz.ntmps29]
  (refine aa [] fun K hK=>?_;simp(disch:=omega) only[kc,ab,ck,List.replicate,ac,Value.oneCell'];apply hK)
  (refine aa [⟨1,_,_,_,hF⟩] fun K hK=>?_;simp(disch:=omega) only[kc,ck,Ek,ar.a,ab,Nat.reduceAdd,ai,aN,aC,List.find?_cons,aD,aX,CallRes.plain,aF,aH,ap,noRefTV,am,aG,aE,aV,ak];apply hK)
  (refine aa [] fun K hK=>?_;simp(disch:=omega) only[kc,ab,Nat.reduceAdd,aB,ai,aN,aC,List.find?_nil,aD,ak,ac,Value.oneCell',Option.map_none,aQ];apply hK)
  (refine ay ⟨.inr rfl,aO rfl ?_ rfl⟩;simp(disch:=omega) only[bE,Tryz.results29,aP,List.getElem?_cons_succ,List.getElem?_cons_zero])
abbrev qE (l:List Int):TV:= .one (.p (.sl (ls fI l)))
structure KZ (x:List Int) where
 i:Nat
 hi:i<=x.length
 ok: ∀j c,j<i->x[j]?=some c-> -1099511627776<=c/\c<=1099511627776
theorem Ew (x:List Int):CallC Tryz.prog 30 [qE x] ⟨[],.raw (.bool (ve x))⟩:=by
 refine B8 0 (ls fI x) rfl (fun hlen=>?_) (by kernel_rfl)
 rw[aR]at hlen
 refine ax Tryz.func30 rfl (by kernel_rfl) ?_;rw[Tryz.ntmps30]
 (refine aa [] fun K hK=>?_;simp(disch:=omega) only[kc,ab,qE,List.replicate,ac,Value.oneCell'];apply hK)
 (refine ae (aa [] fun K hK=>?_);simp(disch:=omega) only[kc,ab,Nat.reduceAdd,aw,au,bM,aR,ac,Value.oneCell'];apply hK)
 refine bD (G:=KZ x) (fun g=>⟨[jk,jk,.raw (.bool false),jk,jk,qE x,.raw (.int .i64 (x.length:Int)),.raw (.int .i64 (g.i:Int)),jk,jk,jk,jk,jk,jk,jk,jk,jk,jk],Hm []⟩) (fun g=>x.length-g.i) ⟨0,by omega,fun j c hj=>by omega⟩ ?_ ?_
 ·refine aj trivial ?_
  simp[b9,bo,bj]
 ·rintro⟨i,hi,ok⟩
  simp only
  by_cases hm:i<x.length
  ·obtain⟨c,hc⟩:=getElem?_of_lt hm
   (refine aa [] fun K hK=>?_;simp(disch:=omega) only[kc,ab,qE,Hm,ak,ah,bA];apply hK)
   refine ae (af rfl (fun _=>aq ?_) (fun h=>by simp at h<;>omega))
   refine ae (aI ?_)
   (refine aa [] fun K hK=>?_;simp(disch:=omega) only[kc,ab,Nat.reduceAdd,ag,au,ao,bM,bG,hc,fI,dL,aA,fF];apply hK)
   by_cases h1:c< -1099511627776
   ·rw[mA hc (.inl h1)]
    (refine aa [] fun K hK=>?_;simp(disch:=omega) only[kc,ab,Nat.reduceAdd,ak,ac,Value.oneCell',ah,bA,aB,reduceCtorEq,Option.map_none,aQ];apply hK)
    refine af rfl (fun _=>?_) (fun h=>by simp at h<;>omega)
    (refine aa [] fun K hK=>?_;simp(disch:=omega) only[kc,ab,ac,Value.oneCell'];apply hK)
    (refine ay ⟨.inr rfl,aO rfl ?_ rfl⟩;simp(disch:=omega) only[bE,Tryz.results30,aP,List.getElem?_cons_succ,List.getElem?_cons_zero])
   by_cases h2:1099511627776<c
   ·rw[mA hc (.inr h2)]
    (refine aa [] fun K hK=>?_;simp(disch:=omega) only[kc,ab,Nat.reduceAdd,ak,ac,Value.oneCell',ah,bf,aB,bH,bA,aQ];apply hK)
    refine af rfl (fun _=>?_) (fun h=>by simp at h<;>omega)
    (refine aa [] fun K hK=>?_;simp(disch:=omega) only[kc,ab,ac,Value.oneCell'];apply hK)
    (refine ay ⟨.inr rfl,aO rfl ?_ rfl⟩;simp(disch:=omega) only[bE,Tryz.results30,aP,List.getElem?_cons_succ,List.getElem?_cons_zero])
   (refine aa [] fun K hK=>?_;simp(disch:=omega) only[kc,ab,Nat.reduceAdd,ak,ac,Value.oneCell',ah,bf,aB,bH,aQ];apply hK)
   refine af rfl (fun h=>by simp at h<;>omega) (fun _=>aq ?_)
   show bT _ _ _ _
   ((refine aU [] [] (by simp) fun K hK=>?_);simp(disch:=omega) only[kc,ab,ak,ac,Value.oneCell',ah,bC];apply hK)
   refine⟨⟨i+1,by omega,qb ok hc (by omega)⟩,by simp only;omega,aj trivial ?_⟩
   simp[b9,bo,bj]
  ·rw[wV (k:=i) (by omega) ok]
   (refine aa [] fun K hK=>?_;simp(disch:=omega) only[kc,ab,qE,Hm,ak,ah,bf];apply hK)
   refine ae (af rfl (fun h=>by simp at h<;>omega) (fun _=>bv ?_))
   show bT _ _ _ _
   (refine aa [] fun K hK=>?_;simp(disch:=omega) only[kc,ab,ac,Value.oneCell'];apply hK)
   (refine ay ⟨.inr rfl,aO rfl ?_ rfl⟩;simp(disch:=omega) only[bE,Tryz.results30,aP,List.getElem?_cons_succ,List.getElem?_cons_zero])
theorem vm {x y:List Int} {b c:Nat} (hx: ∀i,Sz (x.getD i 0) b) (hy: ∀i,Sz (y.getD i 0) c): ∀l,Sz (fd x y l) (b+c+l)
 |0=>rl _
 |l+1=>by
  show Sz (fd x y l+x.getD l 0*y.getD l 0) _
  exact(vm hx hy l).add (((hx l).mul (hy l)).mono (by omega))
theorem qX {x:List Int} {b:Nat} (h: ∀z∈x,Sz z b) (i:Nat):Sz (x.getD i 0) b:=by
 rw[List.getD_eq_getElem?_getD]
 cases hx:x[i]? with
 |none=>exact rl _
 |some z=>exact h z (List.mem_of_getElem? hx)
theorem JX (x y:List Int) (hx:x.length<=16) (hxy:x.length<=y.length) (sx: ∀z∈x,Sz z 16777216) (sy: ∀z∈y,Sz z 67108864):CallC Tryz.prog 134 [kC x,kC y] ⟨[],tZ (fd x y x.length)⟩:=by
 refine ax Tryz.func134 rfl (by kernel_rfl) ?_;rw[Tryz.ntmps134]
 (refine aa [] fun K hK=>?_;simp(disch:=omega) only[kc,ab,kC,Nat.reduceAdd,List.replicate,bu,aN,aC,bi,Value.oneCell',bH];apply hK)
 (refine aa [] fun K hK=>?_;simp(disch:=omega) only[kc,ab,Nat.reduceAdd,eC,au,bi,fO,Value.oneCell',fm,bu,aN,aC,bH,aJ,Nat.reduceEqDiff,az,df,bJ,aM,cellsOf,Nat.le_refl,isPure,putCells,aS,aT];apply hK)
 (refine ae (aa [] fun K hK=>?_);simp(disch:=omega) only[kc,ab,Nat.reduceAdd,aw,au,bL,aR,ac,Value.oneCell'];apply hK)
 refine bD (G:=KG x.length) (fun g=>⟨[kC x,kC y,jk,jk,.one (.ptr 4 0 0 0),.one (.ptr 5 0 0 0),jk,jk,jk,.raw (.int .i64 (x.length:Int)),.raw (.int .i64 (g.i:Int)),jk,jk,jk,jk,jk,jk,jk,jk,jk,jk,jk,jk,jk,jk,jk],Hm [(4,qp),(5,vr (fd x y g.i))]⟩) (fun g=>x.length-g.i) ⟨0,by omega⟩ ?_ ?_
 ·refine(gL 5).trans (aj ⟨rfl,?_,trivial⟩ ?_)
  ·show _=vr 0
   simp[zH,aJ,zO,yA,yE,vr,wQ,dx,ls]
  ·simp[b9,bo,bj]
 ·rintro⟨i,hi⟩
  simp only
  have hs:=vm (qX sx) (qX sy) i
  by_cases hm:i<x.length
  ·obtain⟨a,ha⟩:=getElem?_of_lt hm
   obtain⟨b,hb⟩:=getElem?_of_lt (l:=y) (k:=i) (by omega)
   have za:=sx a (List.mem_of_getElem? ha)
   have zb:=sy b (List.mem_of_getElem? hb)
   have c1:=lG a b (za.mono (by omega)) (zb.mono (by omega))
   have c2:=tU (fd x y i) (a*b) (hs.mono (by omega)) ((za.mul zb).mono (by omega))
   have e1:fd x y i+a*b=fd x y (i+1):=by
    show _=fd x y i+x.getD i 0*y.getD i 0
    rw[List.getD_eq_getElem?_getD,List.getD_eq_getElem?_getD,ha,hb];rfl
   rw[e1]at c2
   (refine aa [] fun K hK=>?_;simp(disch:=omega) only[kc,ab,kC,Hm,ak,ah,bA];apply hK)
   refine ae (af rfl (fun _=>aq ?_) (fun h=>by simp at h<;>omega))
   refine ae (aI ?_)
   (refine aa [] fun K hK=>?_;simp(disch:=omega) only[kc,ab];apply hK)
   ((refine dW bY [⟨9,_,_,_,c1⟩,⟨10,_,_,_,c2⟩] [] (by kernel_rfl) (by simp) fun K hK=>?_);simp(disch:=omega) only[kc,tZ,ar.a,ab,Nat.reduceAdd,au,Nat.reduceEqDiff,aA,aM,aW,Nat.le_refl,ag,ao,bL,bG,ha,fZ,hb,ai,aN,aC,List.find?_cons,aD,aX,CallRes.plain,aF,aH,ap,isPure,noRefTV,am,aG,aE,Nat.reduceBEq,az,df,bJ,cellsOf,bH,putCells,aS,aT];apply hK)
   show bT _ _ _ _
   ((refine aU [] [] (by simp) fun K hK=>?_);simp(disch:=omega) only[kc,ab,ak,ac,Value.oneCell',ah,bC];apply hK)
   refine⟨⟨i+1,by omega⟩,by simp only;omega,aj ⟨rfl,rfl,trivial⟩ ?_⟩
   simp[b9,bo,bj]
  ·have hin:i=x.length:=by omega
   subst hin
   (refine aa [] fun K hK=>?_;simp(disch:=omega) only[kc,ab,kC,Hm,ak,ah,bf];apply hK)
   refine ae (af rfl (fun h=>by simp at h<;>omega) (fun _=>bv ?_))
   show bT _ _ _ _
   (refine aa [] fun K hK=>?_;simp(disch:=omega) only[kc,ab,au,Nat.reduceEqDiff,aA,aM,aW,Nat.reduceAdd,Nat.le_refl,az,df,bJ,cellsOf,isPure,bH,putCells,aS,aT];apply hK)
   (refine ay ⟨.inr rfl,aO rfl ?_ rfl⟩;simp(disch:=omega) only[kc,bE,Tryz.results134,aP,aJ,Nat.reduceEqDiff,cP,aA,aM,aW,Nat.reduceAdd,Nat.le_refl,tZ])
abbrev KI (n c:Nat) (f:Nat->Nat->Int) (y:List Int):List Int:=de n fun i=>fd (de c (f i)) y c
abbrev JN (v:Int) (b:Bool):TV:= .tup [(false,[.p (.raw (.int .i64 v))]),(false,[.p (.raw (.bool b))])]
def Ky (z:Int):TV:=if -4611686018427387904<=z/\z<=4611686018427387904 then JN z true else JN 0 false
theorem yX {n:Nat} {f:Nat->Nat->Int} {y:List Int} (hr:ch (cd n n f)=true) (hy:ve y=true):dO (cd n n f) y=KI n n f y:=by
 have hs:=ee hr
 have h8:=hs.2.1
 rw[bQ]at h8
 apply List.ext_getElem?
 intro i
 rw[dO,List.getElem?_map]
 by_cases hi:i<n
 ·rw[cS _ _ hi,bK _ hi]
  simp only[Option.map_some,cq]
  exact congrArg some (nt (hs.row_bd (cS _ _ hi)) (fun i z hz=>iq hy hz) n h8).1
 ·rw[List.getElem?_eq_none (by rw[bQ];omega),List.getElem?_eq_none (by rw[cq];omega)];rfl
theorem J3 (a b:Int) (hb0:b≠0) (ha:Bh a) (hb:Bh b):CallC Tryz.prog 166 [tZ a,tZ b] ⟨[],tZ (a%b)⟩:=by
 have h1:=wT a b hb0 ha hb
 refine ax Tryz.func166 rfl (by kernel_rfl) ?_;rw[Tryz.ntmps166]
 (refine aa [] fun K hK=>?_;simp(disch:=omega) only[kc,ab,Nat.reduceAdd,tZ,List.replicate,cf,aN,aC,cellsOf,isPure,bH,aJ,Nat.reduceEqDiff,bu,bi,Value.oneCell',cP];apply hK)
 (refine aa [⟨2,_,_,_,h1⟩] fun K hK=>?_;simp(disch:=omega) only[kc,tZ,cZ,ar.a,ab,Nat.reduceAdd,au,aJ,Nat.reduceEqDiff,cP,aA,aM,aW,Nat.le_refl,ai,aN,aC,List.find?_cons,aD,aX,CallRes.plain,aF,aH,ap,isPure,noRefTV,am,aG,aE,aV,ak,bu,bi,Value.oneCell',bH,az,df,bJ,cellsOf,putCells,aS,aT];apply hK)
 (refine aa [] fun K hK=>?_;simp(disch:=omega) only[kc,ab,au,aJ,Nat.reduceEqDiff,cP,aA,aM,aW,Nat.reduceAdd,Nat.le_refl,az,df,bJ,cellsOf,isPure,bH,putCells,aS,aT];apply hK)
 (refine ay ⟨.inr rfl,aO rfl ?_ rfl⟩;simp(disch:=omega) only[kc,bE,Tryz.results166,aP,aJ,Nat.reduceEqDiff,cP,aA,aM,aW,Nat.reduceAdd,Nat.le_refl,tZ])
structure KY (a b:Int) where
 x:Int
 y:Int
 hx:0<=x
 hy:0<=y
 hg:Int.gcd x y=Int.gcd a b
 sx:Bh x
 sy:Bh y
theorem Em {x y:Int} (hx:0<=x) (hy:0<=y):Int.gcd y (x%y)=Int.gcd x y:=by
 obtain⟨m,rfl⟩:=Int.eq_ofNat_of_zero_le hx
 obtain⟨n,rfl⟩:=Int.eq_ofNat_of_zero_le hy
 show Nat.gcd n (m%n)=Nat.gcd m n
 rw[Nat.gcd_comm n,<- Nat.gcd_rec,Nat.gcd_comm]
theorem JY (a b:Int) (ha:Bh a) (hb:Bh b):CallC Tryz.prog 162 [tZ a,tZ b] ⟨[],tZ (Int.gcd a b:Nat)⟩:=by
 have c1:=Ay a ha.bg
 have c2:=Ay b hb.bg
 refine ax Tryz.func162 rfl (by kernel_rfl) ?_;rw[Tryz.ntmps162]
 (refine aa [] fun K hK=>?_;simp(disch:=omega) only[kc,ab,Nat.reduceAdd,tZ,List.replicate,cf,aN,aC,cellsOf,isPure,bH,aJ,Nat.reduceEqDiff,bu,bi,Value.oneCell',cP];apply hK)
 (refine bS bY [⟨1,_,_,_,c1⟩,⟨3,_,_,_,c2⟩] [] (by kernel_rfl) (by simp) fun K hK=>?_;simp(disch:=omega) only[kc,tZ,bf,ar.a,ab,Nat.reduceAdd,au,aJ,Nat.reduceEqDiff,cP,aA,aM,aW,Nat.le_refl,ai,aN,aC,List.find?_cons,aD,aX,CallRes.plain,aF,aH,ap,isPure,noRefTV,am,aG,aE,Nat.reduceBEq,bu,bi,Value.oneCell',bH,az,df,bJ,cellsOf,putCells,aS,aT];apply hK)
 refine ae (bD (G:=KY a b) (fun g=>⟨[jk,jk,jk,jk,.one (.ptr 4 0 0 0),.one (.ptr 5 0 0 0),.one (.ptr 6 0 0 0),jk,jk,jk,jk,jk,jk,jk,jk,jk,jk,jk,jk],Hm [(4,qp),(5,vr g.x),(6,vr g.y)]⟩) (fun g=>g.y.natAbs) ⟨a.natAbs,b.natAbs,by omega,by omega,by simp;rfl,ha.le (by omega),hb.le (by omega)⟩ ?_ ?_)
 ·refine aj ⟨rfl,rfl,rfl,trivial⟩ ?_
  simp[b9,bo,bj]
 ·rintro⟨x,y,hx,hy,hg,sx,sy⟩
  simp only
  have cs:=mj y sy.bg
  by_cases h0:y=0
  ·subst h0
   (refine ae (aa [⟨1,_,_,_,cs⟩] fun K hK=>?_);simp(disch:=omega) only[kc,tZ,bf,wz,ar.a,ab,Nat.reduceAdd,Hm,au,Nat.reduceEqDiff,cP,aA,aM,aW,Nat.le_refl,ai,aN,aC,List.find?_cons,aD,aX,CallRes.plain,aF,aH,ap,isPure,noRefTV,am,aG,aE,ak,ac,Value.oneCell',ah,bA];apply hK)
   refine af rfl (fun h=>by simp at h) (fun _=>bv ?_)
   show bT _ _ _ _
   have e:((Int.gcd a b:Nat):Int)=x:=by rw[<- hg,Int.gcd_zero_right];omega
   rw[e]
   (refine aa [] fun K hK=>?_;simp(disch:=omega) only[kc,ab,au,Nat.reduceEqDiff,cP,bf,aA,aM,aW,Nat.reduceAdd,Nat.le_refl,az,df,bJ,cellsOf,isPure,bH,putCells,aS,aT];apply hK)
   (refine ay ⟨.inr rfl,aO rfl ?_ rfl⟩;simp(disch:=omega) only[kc,bE,Tryz.results162,aP,aJ,Nat.reduceEqDiff,cP,aA,aM,aW,Nat.reduceAdd,Nat.le_refl,tZ,bf])
  ·have hs:=FD h0
   have cr:=J3 x y h0 sx sy
   have hlt:=Int.emod_lt_of_pos x (show 0<y by omega)
   have hnn:=Int.emod_nonneg x h0
   (refine ae (aa [⟨1,_,_,_,cs⟩] fun K hK=>?_);simp(disch:=omega) only[kc,tZ,bf,ar.a,ab,Nat.reduceAdd,Hm,au,Nat.reduceEqDiff,cP,aA,aM,aW,Nat.le_refl,ai,aN,aC,List.find?_cons,aD,aX,CallRes.plain,aF,aH,ap,isPure,noRefTV,am,aG,aE,ak,ac,Value.oneCell',ah,Bool.not_false];apply hK)
   refine af rfl (fun _=>aq ?_) (fun h=>by simp at h<;>omega)
   refine aI ?_
   ((refine dW bY [⟨3,_,_,_,cr⟩] [] (by kernel_rfl) (by simp) fun K hK=>?_);simp(disch:=omega) only[kc,tZ,bf,ar.a,ab,Nat.reduceAdd,au,Nat.reduceEqDiff,cP,aA,aM,aW,Nat.le_refl,ai,aN,aC,List.find?_cons,aD,aX,CallRes.plain,aF,aH,ap,isPure,noRefTV,am,aG,aE,az,df,bJ,cellsOf,bH,putCells,aS,aT,aJ];apply hK)
   refine⟨⟨y,x%y,hy,hnn,by rw[Em hx hy,hg],sy,sy.le (by omega)⟩,by simp only;omega,aj ⟨rfl,by simp[aJ,Hm,Int.not_lt.2 hy],by simp[aJ,Hm,Int.not_lt.2 hnn],trivial⟩ ?_⟩
   simp[b9,bo,bj]
abbrev tR (n d:Int):TV:= .agg [.p (.raw (.bool (decide (n<0)))),.p (.sl (ls fU (be n.natAbs))),.p (.raw (.bool (decide (d<0)))),.p (.sl (ls fU (be d.natAbs)))]
def cR (n d:Int):List AV:=[.p (.raw (.bool (decide (n<0)))),.p (.sl (ls fU (be n.natAbs))),.p (.raw (.bool (decide (d<0)))),.p (.sl (ls fU (be d.natAbs)))]
def nN (n d:Int):Int:=n/(Int.gcd n d:Nat)
def nD (n d:Int):Int:=d/(Int.gcd n d:Nat)
theorem lY {n d:Int} (hd:0<d):0<Int.gcd n d:=Int.gcd_pos_of_ne_zero_right n (by omega)
theorem zM {n d:Int}:nN n d*(Int.gcd n d:Nat)=n:=Int.ediv_mul_cancel (Int.gcd_dvd_left n d)
theorem vY {n d:Int}:nD n d*(Int.gcd n d:Nat)=d:=Int.ediv_mul_cancel (Int.gcd_dvd_right n d)
theorem nX {n d:Int} (hd:0<d):0<nD n d:=by
 have h:=vY (n:=n) (d:=d)
 have hg:=lY (n:=n) hd
 rcases Int.lt_or_le 0 (nD n d)with h'|h'
 ·exact h'
 ·have:=Int.mul_nonpos_of_nonpos_of_nonneg h' (show(0:Int)<=(Int.gcd n d:Nat) by omega)
  omega
theorem Bk {n d:Int} (hd:0<d):nN n d/nD n d=n/d:=by
 have hg:=lY (n:=n) hd
 have:nN n d*(Int.gcd n d:Nat)/(nD n d*(Int.gcd n d:Nat))=nN n d/nD n d:=Int.mul_ediv_mul_of_pos_left _ _ (by omega)
 rw[zM,vY]at this
 exact this.symm
theorem uG {n d:Int} {k:Nat} (h:Sz n k):Sz (nN n d) k:=h.ediv _
theorem uF {n d:Int} {k:Nat} (h:Sz d k):Sz (nD n d) k:=h.ediv _
theorem It (n d:Int) (hd0:0<d) (hn:Bh n) (hd:Bh d):CallC Tryz.prog 152 [tZ n,tZ d] ⟨[],.tup [(true,cR (nN n d) (nD n d)),(false,[.p (.raw (.bool true))])]⟩:=by
 have c1:=mj d hd.bg
 rw[FF hd0]at c1
 have c2:=JY n d hn hd
 have hg:=lY (n:=n) hd0
 have sg:Bh (Int.gcd n d:Nat):=hd.le (by
  have:=Nat.le_of_dvd (by omega) (Int.gcd_dvd_natAbs_right n d)
  omega)
 have c3:=At n (Int.gcd n d:Nat) (by omega) hn sg
 have c4:=At d (Int.gcd n d:Nat) (by omega) hd sg
 rw[show n/(Int.gcd n d:Nat)=nN n d from rfl]at c3
 rw[show d/(Int.gcd n d:Nat)=nD n d from rfl]at c4
 generalize((Int.gcd n d:Nat):Int)=g at*
 generalize nN n d=n' at*
 generalize nD n d=d' at*
 refine ax Tryz.func152 rfl (by kernel_rfl) ?_;rw[Tryz.ntmps152]
 (refine aa [] fun K hK=>?_;simp(disch:=omega) only[kc,ab,Nat.reduceAdd,tZ,bf,List.replicate,cf,aN,aC,cellsOf,isPure,bH,aJ,Nat.reduceEqDiff,bu,eF,Value.oneCell',cP,ac];apply hK)
 (refine ae (aa [⟨1,_,_,_,c1⟩] fun K hK=>?_);simp(disch:=omega) only[kc,tZ,bf,ar.a,ab,Nat.reduceAdd,au,aJ,Nat.reduceEqDiff,cP,aA,aM,aW,Nat.le_refl,ai,aN,aC,List.find?_cons,aD,aX,CallRes.plain,aF,aH,ap,isPure,noRefTV,am,aG,aE,ak,ac,Value.oneCell',ah];apply hK)
 refine af rfl (fun h=>by simp at h) (fun _=>aq ?_)
 show bT _ _ _ _
 (refine ae (aa [⟨1,_,_,_,c1⟩] fun K hK=>?_);simp(disch:=omega) only[kc,tZ,bf,ar.a,ab,Nat.reduceAdd,au,aJ,Nat.reduceEqDiff,cP,aA,aM,aW,Nat.le_refl,ai,aN,aC,List.find?_cons,aD,aX,CallRes.plain,aF,aH,ap,isPure,noRefTV,am,aG,aE,ak,ac,Value.oneCell',ah];apply hK)
 refine af rfl (fun h=>by simp at h) (fun _=>aq ?_)
 show bT _ _ _ _
 (refine aa [⟨2,_,_,_,c2⟩] fun K hK=>?_;simp(disch:=omega) only[kc,tZ,bf,ar.a,ab,Nat.reduceAdd,au,aJ,Nat.reduceEqDiff,cP,aA,aM,aW,Nat.le_refl,ai,aN,aC,List.find?_cons,aD,aX,CallRes.plain,aF,aH,ap,isPure,noRefTV,am,aG,aE,bu,bi,Value.oneCell',bH,az,df,bJ,cellsOf,putCells,aS,aT];apply hK)
 (refine bS bY [⟨2,_,_,_,c3⟩,⟨5,_,_,_,c4⟩] [] (by kernel_rfl) (by simp) fun K hK=>?_;simp(disch:=omega) only[kc,tZ,bf,ar.a,ab,Nat.reduceAdd,au,aJ,Nat.reduceEqDiff,cP,aA,aM,aW,Nat.le_refl,ai,aN,aC,List.find?_cons,aD,aX,CallRes.plain,aF,aH,ap,isPure,noRefTV,am,aG,aE,Nat.reduceBEq,eC,eF,qa,Value.oneCell',fm,cellsOf,Nat.reduceLeDiff,bH,az,df,bJ,eW,putCells,aS,aT,ac];apply hK)
 (refine ay ⟨.inr rfl,aO rfl ?_ rfl⟩;simp(disch:=omega) only[kc,bE,Tryz.results152,cY,aP,aJ,Nat.reduceEqDiff,cP,aA,eW,fQ,Nat.reduceAdd,Nat.le_refl,bX,cR])
theorem iU (n d:Int) (hd0:0<d) (hn:Bh n) (hd:Bh d):CallC Tryz.prog 132 [tR n d] ⟨[],tR (nN n d) (nD n d)⟩:=by
 have c1:=It n d hd0 hn hd
 generalize nN n d=n' at*
 generalize nD n d=d' at*
 refine ax Tryz.func132 rfl (by kernel_rfl) ?_;rw[Tryz.ntmps132]
 (refine aa [] fun K hK=>?_;simp(disch:=omega) only[kc,ab,tR,bf,List.replicate,cf,aN,aC,cellsOf,isPure,Nat.reduceAdd,bH,bu,eF,Value.oneCell',aJ,Nat.reduceEqDiff];apply hK)
 (refine aa [⟨4,_,_,_,c1⟩] fun K hK=>?_;simp(disch:=omega) only[kc,tZ,bf,cR,ar.a,ab,Nat.reduceAdd,aK,au,mt,aM,Nat.add_zero,aJ,Nat.reduceEqDiff,aA,aW,Nat.reduceLeDiff,mu,Nat.le_refl,ai,aN,aC,List.find?_cons,aD,aX,CallRes.plain,aF,aH,ap,isPure,noRefTV,am,aG,aE,aV,ak,bu,eF,Value.oneCell',bH,cP,az,df,bJ,eW,cellsOf,putCells,aS,aT];apply hK)
 (refine ae (aa [] fun K hK=>?_);simp(disch:=omega) only[kc,ab,bW,ak,dc];apply hK)
 refine af rfl (fun h=>by simp at h) (fun _=>aq ?_)
 show bT _ _ _ _
 (refine aa [] fun K hK=>?_;simp(disch:=omega) only[kc,ab,au,aJ,Nat.reduceEqDiff,cP,aA,eW,fQ,Nat.reduceAdd,Nat.le_refl,az,df,bJ,cellsOf,isPure,bH,putCells,aS,aT];apply hK)
 (refine ay ⟨.inr rfl,aO rfl ?_ rfl⟩;simp(disch:=omega) only[kc,bE,Tryz.results132,aP,aJ,Nat.reduceEqDiff,cP,aA,eW,fQ,Nat.reduceAdd,Nat.le_refl,tR])
theorem IS:CallC Tryz.prog 131 [] ⟨[],tR 1 2⟩:=by
 have c1:=gB 1 (by omega) (by omega)
 have c2:=gB 2 (by omega) (by omega)
 refine ax Tryz.func131 rfl (by kernel_rfl) ?_;rw[Tryz.ntmps131]
 (refine aa [] fun K hK=>?_;simp(disch:=omega) only[kc,ab,List.replicate,bu,aN,aC,eF,Value.oneCell',Nat.reduceAdd,bH];apply hK)
 (refine aa [⟨0,_,_,_,c1⟩,⟨1,_,_,_,c2⟩] fun K hK=>?_;simp(disch:=omega) only[kc,tZ,bf,ar.a,ab,Nat.reduceAdd,ai,aN,aC,List.find?_cons,aD,ac,Value.oneCell',aX,CallRes.plain,aF,aH,ap,noRefTV,am,aG,aE,Nat.reduceBEq,eC,au,eF,qa,fm,cellsOf,Nat.reduceLeDiff,Nat.le_refl,bH,az,df,bJ,eW,aJ,isPure,putCells,aS,aT];apply hK)
 (refine ay ⟨.inr rfl,aO rfl ?_ rfl⟩;simp(disch:=omega) only[kc,bE,Tryz.results131,aP,aJ,cP,aA,eW,fQ,Nat.reduceAdd,Nat.le_refl,tR,bf])
theorem Gg (n d:Int) (hd0:0<d) (hn:Bh n) (hd:Bh d):CallC Tryz.prog 129 [tR n d] ⟨[],tZ (n/d)⟩:=by
 have c1:=iU n d hd0 hn hd
 have c2:=At (nN n d) (nD n d) (by have:=nX (n:=n) hd0;omega) (uG hn) (uF hd)
 rw[Bk hd0]at c2
 generalize nN n d=n' at*
 generalize nD n d=d' at*
 refine ax Tryz.func129 rfl (by kernel_rfl) ?_;rw[Tryz.ntmps129]
 (refine aa [] fun K hK=>?_;simp(disch:=omega) only[kc,ab,tR,bf,List.replicate,cf,aN,aC,cellsOf,isPure,Nat.reduceAdd,bH,bu,bi,Value.oneCell',aJ,Nat.reduceEqDiff];apply hK)
 (refine aa [⟨1,_,_,_,c1⟩] fun K hK=>?_;simp(disch:=omega) only[kc,tR,bf,ar.a,ab,Nat.reduceAdd,au,aJ,Nat.reduceEqDiff,aA,eW,fQ,Nat.le_refl,ai,aN,aC,List.find?_cons,aD,aX,CallRes.plain,aF,aH,ap,isPure,noRefTV,am,aG,aE,bu,eF,Value.oneCell',bH,cP,az,df,bJ,cellsOf,putCells,aS,aT];apply hK)
 (refine aa [⟨4,_,_,_,c2⟩] fun K hK=>?_;simp(disch:=omega) only[kc,tZ,ar.a,ab,Nat.reduceAdd,aK,au,mt,aM,Nat.add_zero,aJ,Nat.reduceEqDiff,cP,aA,aW,Nat.reduceLeDiff,mu,Nat.le_refl,ai,aN,aC,List.find?_cons,aD,aX,CallRes.plain,aF,aH,ap,isPure,noRefTV,am,aG,aE,az,df,bJ,cellsOf,bH,putCells,aS,aT];apply hK)
 (refine ay ⟨.inr rfl,aO rfl ?_ rfl⟩;simp(disch:=omega) only[kc,bE,Tryz.results129,aP,aJ,Nat.reduceEqDiff,cP,aA,aM,aW,Nat.reduceAdd,Nat.le_refl,tZ])
abbrev KJ:List OObj:=[⟨128,4,[[.raw (.bool false),.raw (.slice none 0 0),.raw (.bool false),.raw (.slice none 0 0)]]⟩]
abbrev KV (n d:Int):List OObj:=[⟨128,4,[[.p (.raw (.bool (decide (n<0)))),.p (.sl (ls fU (be n.natAbs))),.p (.raw (.bool false)),.p (.sl (ls fU (be d.natAbs)))]]⟩]
theorem IL (a b c d:Int) (hb0:0<b) (hd0:0<d) (ha:Sz a 100000000) (hb:Sz b 100000000) (hc:Sz c 100000000) (hd:Sz d 100000000):
  CallC Tryz.prog 130 [tR a b,tR c d] ⟨[],tR (nN (nN a b*nD c d+nN c d*nD a b) (nD a b*nD c d)) (nD (nN a b*nD c d+nN c d*nD a b) (nD a b*nD c d))⟩:=by
 have c1:=iU a b hb0 (ha.mono (by omega)) (hb.mono (by omega))
 have c2:=iU c d hd0 (hc.mono (by omega)) (hd.mono (by omega))
 have sx:Sz (nN a b) 100000000:=uG ha
 have sy:Sz (nD a b) 100000000:=uF hb
 have su:Sz (nN c d) 100000000:=uG hc
 have sv:Sz (nD c d) 100000000:=uF hd
 have py:=nX (n:=a) hb0
 have pv:=nX (n:=c) hd0
 generalize nN a b=x at*
 generalize nD a b=y at*
 generalize nN c d=u at*
 generalize nD c d=v at*
 have z1:Sz (x*v) 200000000:=(sx.mul sv).mono (by omega)
 have z2:Sz (u*y) 200000000:=(su.mul sy).mono (by omega)
 have z3:Sz (x*v+u*y) 200000001:=z1.add z2
 have z4:Sz (y*v) 200000000:=(sy.mul sv).mono (by omega)
 have m1:=lG x v (sx.mono (by omega)) (sv.mono (by omega))
 have m2:=lG u y (su.mono (by omega)) (sy.mono (by omega))
 have m3:=tU (x*v) (u*y) (z1.mono (by omega)) (z2.mono (by omega))
 have m4:=lG y v (sy.mono (by omega)) (sv.mono (by omega))
 have m5:=It (x*v+u*y) (y*v) (Int.mul_pos py pv) (z3.mono (by omega)) (z4.mono (by omega))
 generalize nN (x*v+u*y) (y*v)=rn at*
 generalize nD (x*v+u*y) (y*v)=rd at*
 refine ax Tryz.func130 rfl (by kernel_rfl) ?_;rw[Tryz.ntmps130]
 (refine aa [] fun K hK=>?_;simp(disch:=omega) only[kc,ab,Nat.reduceAdd,tR,bf,List.replicate,cf,aN,aC,cellsOf,isPure,bH,aJ,Nat.reduceEqDiff,bu,eF,Value.oneCell',cP];apply hK)
 (refine bS bY [⟨1,_,_,_,c1⟩,⟨3,_,_,_,c2⟩] [] (by kernel_rfl) (by simp) fun K hK=>?_;simp(disch:=omega) only[kc,tR,bf,ar.a,ab,Nat.reduceAdd,au,aJ,Nat.reduceEqDiff,cP,aA,eW,fQ,Nat.le_refl,ai,aN,aC,List.find?_cons,aD,aX,CallRes.plain,aF,aH,ap,isPure,noRefTV,am,aG,aE,Nat.reduceBEq,bu,eF,Value.oneCell',bH,az,df,bJ,cellsOf,putCells,aS,aT];apply hK)
 refine bT.weak (aj (tm:=[jk,jk,jk,jk,.one (.ptr 4 0 0 0),.one (.ptr 5 0 0 0),.one (.ptr 6 0 0 0),jk,jk,jk,jk,jk,jk,jk,jk,jk,jk,jk,jk,jk,jk,jk,jk,jk,jk,jk,jk,jk,jk,jk,jk,jk,jk,jk]) (l:=[(4,KJ),(5,KV x y),(6,KV u v)]) ⟨rfl,rfl,rfl,trivial⟩ (by simp[b9,bo,bj])) ?_
 (refine bS bY [⟨4,_,_,_,m1⟩,⟨9,_,_,_,m2⟩,⟨10,_,_,_,m3⟩,⟨15,_,_,_,m4⟩,⟨16,_,_,_,m5⟩] [] (by kernel_rfl) (by simp) fun K hK=>?_;simp(disch:=omega) only[kc,tZ,bf,cR,ar.a,ab,Nat.reduceAdd,Hm,aK,au,mt,aM,Nat.add_zero,Nat.reduceEqDiff,cP,aA,aW,Nat.reduceLeDiff,mu,Nat.le_refl,ai,aN,aC,List.find?_cons,aD,aX,CallRes.plain,aF,aH,ap,isPure,noRefTV,am,aG,aE,Nat.reduceBEq,aV,ak,bu,eF,Value.oneCell',bH,az,df,bJ,eW,aJ,cellsOf,putCells,aS,aT];apply hK)
 (refine aa [] fun K hK=>?_;simp(disch:=omega) only[kc,ab,au,aJ,Nat.reduceEqDiff,cP,aA,eW,fQ,Nat.reduceAdd,Nat.le_refl,az,df,bJ,cellsOf,isPure,bH,putCells,aS,aT];apply hK)
 (refine ay ⟨.inr rfl,aO rfl ?_ rfl⟩;simp(disch:=omega) only[kc,bE,Tryz.results130,aP,aJ,Nat.reduceEqDiff,cP,aA,eW,fQ,Nat.reduceAdd,Nat.le_refl,tR])
theorem Hc {p q:Int} (hq:0<q):nN (nN p q*nD 1 2+nN 1 2*nD p q) (nD p q*nD 1 2)/nD (nN p q*nD 1 2+nN 1 2*nD p q) (nD p q*nD 1 2)=(2*p+q)/(2*q):=by
 have e1:nN 1 2=1:=by decide
 have e2:nD 1 2=2:=by decide
 have hp:=nX (n:=p) hq
 rw[e1,e2,Bk (by omega)]
 have hg:=lY (n:=p) hq
 have a1:=zM (n:=p) (d:=q)
 have a2:=vY (n:=p) (d:=q)
 have:(nN p q*2+1*nD p q)*(Int.gcd p q:Nat)/((nD p q*2)*(Int.gcd p q:Nat))=(nN p q*2+1*nD p q)/(nD p q*2):=Int.mul_ediv_mul_of_pos_left _ _ (by omega)
 rw[<- this]
 congr 1
 ·rw[Int.add_mul,Int.one_mul,Int.mul_right_comm,a1,a2];omega
 ·rw[Int.mul_right_comm,a2];omega
theorem BP (p q:Int) (hq0:0<q) (hp:Sz p 100000000) (hq:Sz q 100000000):CallC Tryz.prog 104 [tR p q] ⟨[],tZ ((2*p+q)/(2*q))⟩:=by
 have c2:=IL p q 1 2 hq0 (by omega) hp hq (mr (by omega)) (mq (by decide) (by omega))
 have hx:Sz (nN p q) 100000000:=uG hp
 have hy:Sz (nD p q) 100000000:=uF hq
 have hyp:=nX (n:=p) hq0
 have e1:nN 1 2=1:=by decide
 have e2:nD 1 2=2:=by decide
 have z2:Sz (2:Int) 1:=mq (by decide) (by omega)
 have zn:Sz (nN p q*nD 1 2+nN 1 2*nD p q) 100000002:=by
  rw[e1,e2]
  refine Sz.add (k:=100000001) ((hx.mul z2).mono (by omega)) ?_
  rw[Int.one_mul]
  exact hy.mono (by omega)
 have zd:Sz (nD p q*nD 1 2) 100000001:=by rw[e2];exact(hy.mul z2).mono (by omega)
 have c3:=Gg (nN (nN p q*nD 1 2+nN 1 2*nD p q) (nD p q*nD 1 2)) (nD (nN p q*nD 1 2+nN 1 2*nD p q) (nD p q*nD 1 2)) (nX (by rw[e2];omega)) ((uG zn).mono (by omega)) ((uF zd).mono (by omega))
 rw[Hc hq0]at c3
 generalize nN (nN p q*nD 1 2+nN 1 2*nD p q) (nD p q*nD 1 2)=rn at*
 generalize nD (nN p q*nD 1 2+nN 1 2*nD p q) (nD p q*nD 1 2)=rd at*
 have c1:=IS
 refine ax Tryz.func104 rfl (by kernel_rfl) ?_;rw[Tryz.ntmps104]
 (refine aa [] fun K hK=>?_;simp(disch:=omega) only[kc,ab,tR,bf,List.replicate,cf,aN,aC,cellsOf,isPure,Nat.reduceAdd,bH,bu,bi,Value.oneCell',aJ,Nat.reduceEqDiff];apply hK)
 (refine bS bY [⟨1,_,_,_,c1⟩,⟨2,_,_,_,c2⟩,⟨3,_,_,_,c3⟩] [] (by kernel_rfl) (by simp) fun K hK=>?_;simp(disch:=omega) only[kc,tR,bf,tZ,ar.a,ab,Nat.reduceAdd,au,aJ,Nat.reduceEqDiff,aA,eW,fQ,Nat.le_refl,ai,aN,aC,List.find?_cons,aD,CallRes.plain,aF,aH,noRefTV,am,aG,aE,Nat.reduceBEq,aX,ap,isPure,az,df,bJ,aM,cellsOf,bH,putCells,aS,aT];apply hK)
 (refine ay ⟨.inr rfl,aO rfl ?_ rfl⟩;simp(disch:=omega) only[kc,bE,Tryz.results104,aP,aJ,Nat.reduceEqDiff,cP,aA,aM,aW,Nat.reduceAdd,Nat.le_refl,tZ])
theorem yL (p q:Int) (hq0:0<q) (hp:Bh p) (hq:Bh q):CallC Tryz.prog 105 [tZ p,tZ q] ⟨[],tR (nN p q) (nD p q)⟩:=by
 have c1:=iU p q hq0 hp hq
 generalize nN p q=n' at*
 generalize nD p q=d' at*
 refine ax Tryz.func105 rfl (by kernel_rfl) ?_;rw[Tryz.ntmps105]
 (refine aa [] fun K hK=>?_;simp(disch:=omega) only[kc,ab,Nat.reduceAdd,tZ,bf,List.replicate,cf,aN,aC,cellsOf,isPure,bH,aJ,Nat.reduceEqDiff,bu,eF,Value.oneCell',cP];apply hK)
 (refine aa [⟨3,_,_,_,c1⟩] fun K hK=>?_;simp(disch:=omega) only[kc,tR,bf,ar.a,ab,Nat.reduceAdd,au,aJ,Nat.reduceEqDiff,cP,aA,aM,aW,Nat.le_refl,eC,eF,qa,Value.oneCell',fm,cellsOf,Nat.reduceLeDiff,bH,ai,aN,aC,List.find?_cons,aD,aX,CallRes.plain,aF,aH,ap,isPure,noRefTV,am,aG,aE,az,df,bJ,eW,putCells,aS,aT];apply hK)
 (refine ay ⟨.inr rfl,aO rfl ?_ rfl⟩;simp(disch:=omega) only[kc,bE,Tryz.results105,aP,aJ,Nat.reduceEqDiff,cP,aA,eW,fQ,Nat.reduceAdd,Nat.le_refl,tR])
def qF (l d:Int):Int:=(2*l+d)/(2*d)
theorem KN {l d:Int} (hd:0<d):(2*nN l d+nD l d)/(2*nD l d)=qF l d:=by
 have hg:=lY (n:=l) hd
 have a1:=zM (n:=l) (d:=d)
 have a2:=vY (n:=l) (d:=d)
 have:(2*nN l d+nD l d)*(Int.gcd l d:Nat)/((2*nD l d)*(Int.gcd l d:Nat))=(2*nN l d+nD l d)/(2*nD l d):=Int.mul_ediv_mul_of_pos_left _ _ (by omega)
 rw[<- this,qF]
 congr 1
 ·rw[Int.add_mul,Int.mul_assoc,a1,a2]
 ·rw[Int.mul_assoc,a2]
end Go.Proofs.YtpgghglbpcabkaaGreat
