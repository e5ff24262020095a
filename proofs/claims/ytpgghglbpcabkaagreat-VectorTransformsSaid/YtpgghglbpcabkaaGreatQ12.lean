/-
  Part 13 of a proof (walks and plain facts).
-/
import Derived.Test.YtpgghglbpcabkaaGreatQ11
set_option linter.all false
set_option maxRecDepth 100000
set_option maxHeartbeats 64000000
namespace Go.Proofs.YtpgghglbpcabkaaGreat
open Go.RowKit
def io (f:Nat->Nat->Int):Nat->Nat->Int:=fun a b=>f b a
def zV (f:Nat->Nat->Int) (i j:Nat):Nat->Nat->Int:=fun a b=>if b<i\/(b=i/\a<j)then f b a else 0
theorem Fi (f:Nat->Nat->Int) (i j a b:Nat):upd (zV f i j) j i (f i j) a b=zV f i (j+1) a b:=by
 unfold upd zV
 by_cases h1:a=j
 ·subst h1
  by_cases h2:b=i
  ·subst h2;simp
  ·simp[h2]
 ·have:a<j+1↔a<j:=by omega
  simp[h1,this]
theorem Ho {c:Nat} (f:Nat->Nat->Int) (i a b:Nat) (ha:a<c):zV f i c a b=zV f (i+1) 0 a b:=by
 unfold zV
 have:(b<i\/b=i/\a<c)↔(b<i+1\/b=i+1/\a<0):=by omega
 simp only[this]
theorem Hn {n:Nat} (f:Nat->Nat->Int) (a b:Nat) (hb:b<n):zV f n 0 a b=io f a b:=by
 unfold zV io;rw[if_pos (.inl hb)]
theorem Fj (f:Nat->Nat->Int):zV f 0 0=fun _ _=>0:=by
 funext a b;unfold zV;rw[if_neg (by omega)]
theorem qn (n c:Nat) (f:Nat->Nat->Int) (hn1:1<=n) (hn:n<=16) (hc1:1<=c) (hc:c<=16) (hf: ∀i j:Nat,i<n->j<c->Bg (f i j)):
  CallC Tryz.prog 71 [ci (cd n c f)] ⟨[],.tup [(false,[.p (.sl (ls (fR fZ) (cd c n (io f))))]),(false,[.p (.raw (.bool true))])]⟩:=by
 have hS:=mB (cd n c f)
 rw[gO (i4 f hn1 hn hc1 hc),bQ,fK f hn1]at hS
 have hml:=bQ n c f
 have hZ:=vj c n hc hn
 rw[qZ,pN]at hZ
 refine ax Tryz.func71 rfl (by kernel_rfl) ?_;rw[Tryz.ntmps71]
 (refine aa [] fun K hK=>?_;simp(disch:=omega) only[kc,ab,ci,List.replicate,ac,Value.oneCell'];apply hK)
 (refine aa [⟨1,_,_,_,hS⟩] fun K hK=>?_;simp(disch:=omega) only[kc,ci,ar.a,ab,Nat.reduceAdd,ai,aN,aC,List.find?_cons,aD,aX,CallRes.plain,aF,aH,ap,noRefTV,am,aG,aE,aV,ak];apply hK)
 (refine ae (aa [] fun K hK=>?_);simp(disch:=omega) only[kc,ab,bW,ak,dc];apply hK)
 refine af rfl (fun h=>by simp at h) (fun _=>aq ?_)
 show bT _ _ _ _
 (refine aa [⟨2,_,_,_,hZ⟩] fun K hK=>?_;simp(disch:=omega) only[kc,ar.a,ab,Nat.reduceAdd,ai,aN,aC,List.find?_cons,aD,aX,CallRes.plain,List.isEmpty_cons,aF,aH,ap,Bool.not_false,noRefTV,am,Bool.or_false,aG,aE,dm];apply hK)
 (refine ae (aa [] fun K hK=>?_);simp(disch:=omega) only[kc,ab,Nat.reduceAdd,aw,au,aZ,aR,hml,ac,Value.oneCell'];apply hK)
 refine bD (G:=mz n) (fun g=>⟨[ci (cd n c f),jk,jk,jk,jk,jk,jk,.one (.sl 20 0 0 c),jk,jk,jk,jk,jk,jk,jk,jk,jk,jk,jk,jk,jk,jk,.raw (.int .i64 (n:Int)),.raw (.int .i64 (g.i:Int)),jk,jk,jk,jk,jk,jk,jk,jk,jk,jk,jk,jk,jk,jk,jk,jk,jk,jk,jk,jk,jk,jk,jk,jk,jk,jk,jk],Hm [(20,gV 20 c n (zV f g.i 0))]⟩) (fun g=>n-g.i) ⟨0,by omega⟩ ?_ ?_
 ·refine aj ⟨?_,trivial⟩ ?_
  ·rw[Fj];exact gM 0 20 c n _
  ·simp[b9,bo,bj]
 ·rintro⟨i,hi⟩
  simp only
  by_cases hm:i<n
  ·have hr:=cS c f hm
   (refine aa [] fun K hK=>?_;simp(disch:=omega) only[kc,ab,ci,Hm,ak,ah,bA];apply hK)
   refine ae (af rfl (fun _=>aq ?_) (fun h=>by simp at h<;>omega))
   refine ae (aI ?_)
   (refine aa [] fun K hK=>?_;simp(disch:=omega) only[kc,ab];apply hK)
   (refine aa [] fun K hK=>?_;simp(disch:=omega) only[kc,ab,Nat.reduceAdd,ag,au,ao,aZ,bG,hr,fR,cw,aA,cu,aw,bL,aR,cq,ac,Value.oneCell'];apply hK)
   refine bD (G:=mz c) (fun g=>⟨[ci (cd n c f),jk,jk,jk,jk,jk,jk,.one (.sl 20 0 0 c),.raw (.int .i64 (i:Int)),jk,jk,jk,jk,jk,jk,jk,jk,jk,jk,jk,jk,jk,.raw (.int .i64 (n:Int)),.raw (.int .i64 (i:Int)),jk,jk,jk,jk,jk,jk,.raw (.int .i64 (c:Int)),.raw (.int .i64 (g.i:Int)),jk,jk,jk,jk,jk,jk,jk,jk,jk,jk,jk,jk,jk,jk,jk,jk,jk,jk,jk],Hm [(20,gV 20 c n (zV f i g.i))]⟩) (fun g=>c-g.i) ⟨0,by omega⟩ ?_ ?_
   ·refine aj ⟨rfl,trivial⟩ ?_
    simp[b9,bo,bj]
   ·rintro⟨j,hj⟩
    simp only
    by_cases hm3:j<c
    ·have hjr:=bK (f i) hm3
     have hS:=ES (f i j) (hf i j hm hm3)
     have g1:=cX (n:=c) (i:=j) 20 n hm3
     have g2:=eY n (zV f i j) hm3
     have g3:=bK (zV f i j j) hm
     (refine aa [] fun K hK=>?_;simp(disch:=omega) only[kc,ab,ci,Hm,ak,ah,bA];apply hK)
     refine ae (af rfl (fun _=>aq ?_) (fun h=>by simp at h<;>omega))
     refine ae (aI ?_)
     (refine aa [] fun K hK=>?_;simp(disch:=omega) only[kc,ab];apply hK)
     ((refine dW bY [⟨12,_,_,_,hS⟩] [] (by kernel_rfl) (by simp) fun K hK=>?_);simp(disch:=omega) only[kc,tZ,ar.a,ab,Nat.reduceAdd,ag,au,ao,aZ,cw,bH,g1,aA,cu,bG,hr,fR,bL,hjr,fZ,aM,aW,Nat.le_refl,ai,aN,aC,List.find?_cons,aD,aX,CallRes.plain,aF,aH,ap,isPure,noRefTV,am,aG,aE,g2,az,df,bJ,cb,g3,cellsOf,putCells,jO,aS,aT];apply hK)
     show bT _ _ _ _
     ((refine aU [] [] (by simp) fun K hK=>?_);simp(disch:=omega) only[kc,ab,ak,ac,Value.oneCell',ah,bC];apply hK)
     refine⟨⟨j+1,by omega⟩,by simp only;omega,aj ⟨?_,trivial⟩ ?_⟩
     ·show _::_=_::_
      rw[dt fun a b _ _=>Fi f i j a b]
     ·simp[b9,bo,bj]
    ·have hjc:j=c:=by omega
     subst hjc
     (refine aa [] fun K hK=>?_;simp(disch:=omega) only[kc,ab,ci,Hm,ak,ah,bf];apply hK)
     refine ae (af rfl (fun h=>by simp at h<;>omega) (fun _=>bv ?_))
     show bT _ _ _ _
     ((refine aU [] [] (by simp) fun K hK=>?_);simp(disch:=omega) only[kc,ab,ak,ac,Value.oneCell',ah,bC];apply hK)
     refine⟨⟨i+1,by omega⟩,by simp only;omega,aj ⟨?_,trivial⟩ ?_⟩
     ·show _::_=_::_
      rw[dt fun a b ha _=>Ho f i a b ha]
     ·simp[b9,bo,bj]
  ·have hin:i=n:=by omega
   subst hin
   (refine aa [] fun K hK=>?_;simp(disch:=omega) only[kc,ab,ci,Hm,ak,ah,bf];apply hK)
   refine ae (af rfl (fun h=>by simp at h<;>omega) (fun _=>bv ?_))
   show bT _ _ _ _
   have e:gV 20 c i (zV f i 0)=gV 20 c i (io f):=by
    show _::_=_::_
    rw[dt fun a b _ hb=>Hn f a b hb]
   rw[e]
   refine bT.weak ((cQ 20 (jJ rfl)).trans (aj (tm:=[jk,jk,jk,jk,jk,jk,jk,ci (cd c i (io f)),jk,jk,jk,jk,jk,jk,jk,jk,jk,jk,jk,jk,jk,jk,jk,jk,jk,jk,jk,jk,jk,jk,jk,jk,jk,jk,jk,jk,jk,jk,jk,jk,jk,jk,jk,jk,jk,jk,jk,jk,jk,jk,jk]) (l:=[]) trivial (by simp[b9,bo,bj];exact(IA (H:=Hm [(20,gV 20 c i (io f))]) (d:=20) (n:=c) (c:=i) (f:=io f) rfl).symm))) ?_
   (refine aa [] fun K hK=>?_;simp(disch:=omega) only[kc,ab,Nat.reduceAdd,ci,Hm,ac,Value.oneCell'];apply hK)
   (refine ay ⟨.inr rfl,aO rfl ?_ rfl⟩;simp(disch:=omega) only[bE,Tryz.results71,cY,aP,List.getElem?_cons_succ,List.getElem?_cons_zero,Option.bind_some,bX,Option.map_some])
def km:Nat->Nat->Int:=fun a b=>if a=b then 1 else 0
def uQ (i:Nat):Nat->Nat->Int:=fun a b=>if a<i/\a=b then 1 else 0
theorem xZ (i a b:Nat):upd (uQ i) i i 1 a b=uQ (i+1) a b:=by
 unfold upd uQ
 by_cases h1:a=i
 ·subst h1
  by_cases h2:b=a
  ·subst h2;simp
  ·simp[h2,Ne.symm h2]
 ·have:a<i+1↔a<i:=by omega
  simp[h1,this]
theorem Bs {n:Nat} (a b:Nat) (ha:a<n):uQ n a b=km a b:=by unfold uQ km;simp[ha]
theorem Fh:uQ 0=fun _ _=>0:=by funext a b;unfold uQ;rw[if_neg (by omega)]
theorem ru (n:Nat) (hn1:1<=n) (hn:n<=16):
  CallC Tryz.prog 61 [.raw (.int .i64 (n:Int))] ⟨gV 0 n n km,.tup [(false,[.sl 0 0 0 n]),(false,[.p (.raw (.bool true))])]⟩:=by
 have hZ:=vj n n hn hn
 rw[qZ,pN]at hZ
 have hS:=gB 1 (by omega) (by omega)
 refine ax Tryz.func61 rfl (by kernel_rfl) ?_;rw[Tryz.ntmps61]
 (refine aa [] fun K hK=>?_;simp(disch:=omega) only[kc,ab,List.replicate,ac,Value.oneCell'];apply hK)
 (refine ae (aa [] fun K hK=>?_);simp(disch:=omega) only[kc,ab,Nat.reduceAdd,ak,ac,Value.oneCell',ah,bf,aB,bH,aQ];apply hK)
 refine af rfl (fun h=>by simp at h<;>omega) (fun _=>aq ?_)
 show bT _ _ _ _
 (refine aa [⟨2,_,_,_,hZ⟩] fun K hK=>?_;simp(disch:=omega) only[kc,ar.a,ab,Nat.reduceAdd,ai,aN,aC,List.find?_cons,aD,aX,CallRes.plain,List.isEmpty_cons,aF,aH,ap,Bool.not_false,noRefTV,am,Bool.or_false,aG,aE,dm];apply hK)
 (refine ae (aa [] fun K hK=>?_);simp(disch:=omega) only[kc,ab,Nat.reduceAdd,aw,au,aZ,ac,Value.oneCell'];apply hK)
 refine bD (G:=mz n) (fun g=>⟨[jk,jk,jk,jk,.one (.sl 14 0 0 n),jk,jk,jk,jk,jk,jk,jk,jk,jk,jk,jk,.raw (.int .i64 (n:Int)),.raw (.int .i64 (g.i:Int)),jk,jk,jk,jk,jk,jk,jk,jk,jk,jk,jk],Hm [(14,gV 14 n n (uQ g.i))]⟩) (fun g=>n-g.i) ⟨0,by omega⟩ ?_ ?_
 ·refine aj ⟨?_,trivial⟩ ?_
  ·rw[Fh];exact gM 0 14 n n _
  ·simp[b9,bo,bj]
 ·rintro⟨i,hi⟩
  simp only
  by_cases hm:i<n
  ·have g1:=cX (n:=n) (i:=i) 14 n hm
   have g2:=eY n (uQ i) hm
   have g3:=bK (uQ i i) hm
   have e1:=jO (n:=n) (i:=i) (j:=i) n (uQ i) 1
   (refine aa [] fun K hK=>?_;simp(disch:=omega) only[kc,ab,Hm,ak,ah,bA];apply hK)
   refine ae (af rfl (fun _=>aq ?_) (fun h=>by simp at h<;>omega))
   refine ae (aI ?_)
   (refine aa [] fun K hK=>?_;simp(disch:=omega) only[kc,ab];apply hK)
   ((refine dW bY [⟨5,_,_,_,hS⟩] [] (by kernel_rfl) (by simp) fun K hK=>?_);simp(disch:=omega) only[kc,tZ,bf,ar.a,ab,Nat.reduceAdd,ag,au,ao,aZ,cw,bH,g1,aA,cu,ai,aN,aC,List.find?_cons,aD,ac,Value.oneCell',aX,CallRes.plain,aF,aH,ap,noRefTV,am,aG,aE,bL,g2,aM,az,df,bJ,cb,fZ,g3,cellsOf,Nat.le_refl,isPure,putCells,aS,aT];apply hK)
   show bT _ _ _ _
   ((refine aU [] [] (by simp) fun K hK=>?_);simp(disch:=omega) only[kc,ab,ak,ac,Value.oneCell',ah,bC];apply hK)
   refine⟨⟨i+1,by omega⟩,by simp only;omega,aj ⟨?_,trivial⟩ ?_⟩
   ·show _::_=_::_
    rw[<- dt fun a b _ _=>xZ i a b]
    congr 1
   ·simp[b9,bo,bj]
  ·have hin:i=n:=by omega
   subst hin
   (refine aa [] fun K hK=>?_;simp(disch:=omega) only[kc,ab,Hm,ak,ah,bf];apply hK)
   refine ae (af rfl (fun h=>by simp at h<;>omega) (fun _=>bv ?_))
   show bT _ _ _ _
   have e:gV 14 i i (uQ i)=gV 14 i i km:=by
    show _::_=_::_
    rw[dt fun a b ha _=>Bs a b ha]
   rw[e]
   (refine aa [] fun K hK=>?_;simp(disch:=omega) only[kc,ab,Nat.reduceAdd,ac,Value.oneCell'];apply hK)
   refine ay ⟨.inr rfl,_,dG.refl _,?_⟩
   refine⟨.tup [(false,[.sl 14 0 0 i]),(false,[.p (.raw (.bool true))])],14,?_,?_,?_,rfl⟩
   ·simp(disch:=omega) only[bE,Tryz.results61,cY,aP,List.getElem?_cons_succ,List.getElem?_cons_zero,Option.bind_some,bX,Option.map_some]
   ·intro t ht x hx
    simp at ht
    rcases ht with rfl|rfl<;>(simp at hx;subst hx)<;>first|rfl|trivial
   ·exact(gM 14 0 _ _ _).symm
def im (k:Nat) (f g:Nat->Nat->Int):Nat->Nat->Int:=fun i j=>fd (de k (f i)) (de k (io g j)) k
theorem J2 (n k m:Nat) (f g:Nat->Nat->Int) (hn1:1<=n) (hn:n<=16) (hk1:1<=k) (hk:k<=16) (hm1:1<=m) (hmm:m<=16) (hf: ∀i j:Nat,i<n->j<k->Sz (f i j) 16777216) (hg: ∀i j:Nat,i<k->j<m->Sz (g i j) 16777216):
  CallC Tryz.prog 109 [ci (cd n k f),ci (cd k m g)] ⟨[],.tup [(false,[.p (.sl (ls (fR fZ) (cd n m (im k f g))))]),(false,[.p (.raw (.bool true))])]⟩:=by
 have hS:=mB (cd n k f)
 rw[gO (i4 f hn1 hn hk1 hk),bQ,fK f hn1]at hS
 have hT:=qn k m g hk1 hk hm1 hmm (fun i j hi hj=>(hg i j hi hj).mono (by omega))
 have hml:=bQ n k f
 have hml2:=bQ k m g
 have hml3:=bQ m k (io g)
 have hZ:=vj n m hn hmm
 rw[qZ,pN]at hZ
 refine ax Tryz.func109 rfl (by kernel_rfl) ?_;rw[Tryz.ntmps109]
 (refine aa [] fun K hK=>?_;simp(disch:=omega) only[kc,ab,ci,Nat.reduceAdd,List.replicate,ac,Value.oneCell'];apply hK)
 (refine aa [⟨1,_,_,_,hS⟩] fun K hK=>?_;simp(disch:=omega) only[kc,ci,ar.a,ab,Nat.reduceAdd,ai,aN,aC,List.find?_cons,aD,aX,CallRes.plain,aF,aH,ap,noRefTV,am,aG,aE,aV,ak];apply hK)
 (refine aa [⟨1,_,_,_,hT⟩] fun K hK=>?_;simp(disch:=omega) only[kc,ci,ar.a,ab,Nat.reduceAdd,ai,aN,aC,List.find?_cons,aD,aX,CallRes.plain,aF,aH,ap,noRefTV,am,aG,aE,aV,ak];apply hK)
 (refine ae (aa [] fun K hK=>?_);simp(disch:=omega) only[kc,ab,Nat.reduceAdd,bW,ak,dc,aB,aQ,aw,au,aZ,aR,hml2,ah,bA,bH];apply hK)
 refine af rfl (fun h=>by simp at h<;>omega) (fun _=>aq ?_)
 show bT _ _ _ _
 (refine aa [⟨4,_,_,_,hZ⟩] fun K hK=>?_;simp(disch:=omega) only[kc,ar.a,ab,Nat.reduceAdd,aw,au,aZ,aR,hml,hml3,ai,aN,aC,List.find?_cons,aD,aX,CallRes.plain,List.isEmpty_cons,aF,aH,ap,Bool.not_false,noRefTV,am,Bool.or_false,aG,aE,dm];apply hK)
 (refine ae (aa [] fun K hK=>?_);simp(disch:=omega) only[kc,ab,Nat.reduceAdd,aw,au,aZ,aR,hml,ac,Value.oneCell'];apply hK)
 refine bD (G:=mz n) (fun q=>⟨[ci (cd n k f),jk,jk,jk,jk,jk,jk,jk,jk,ci (cd m k (io g)),jk,.one (.sl 41 0 0 n),jk,jk,jk,jk,jk,jk,jk,jk,jk,jk,jk,jk,jk,jk,jk,jk,jk,jk,jk,jk,jk,jk,jk,jk,jk,jk,jk,jk,jk,jk,jk,.raw (.int .i64 (n:Int)),.raw (.int .i64 (q.i:Int)),jk,jk,jk,jk,jk,jk,jk,jk,jk,jk,jk,jk,jk,jk,jk,jk,jk,jk,jk,jk,jk,jk,jk,jk,jk],Hm [(41,gV 41 n m (part (im k f g) q.i 0))]⟩) (fun q=>n-q.i) ⟨0,by omega⟩ ?_ ?_
 ·refine aj ⟨?_,trivial⟩ ?_
  ·rw[uP];exact gM 0 41 n m _
  ·simp[b9,bo,bj]
 ·rintro⟨i,hi⟩
  simp only
  by_cases him:i<n
  ·have hr:=cS k f him
   (refine aa [] fun K hK=>?_;simp(disch:=omega) only[kc,ab,ci,Hm,ak,ah,bA];apply hK)
   refine ae (af rfl (fun _=>aq ?_) (fun h=>by simp at h<;>omega))
   refine ae (aI ?_)
   (refine aa [] fun K hK=>?_;simp(disch:=omega) only[kc,ab];apply hK)
   (refine aa [] fun K hK=>?_;simp(disch:=omega) only[kc,ab,Nat.reduceAdd,aw,au,aZ,aR,hml3,ac,Value.oneCell'];apply hK)
   refine bD (G:=mz m) (fun q=>⟨[ci (cd n k f),jk,jk,jk,jk,jk,jk,jk,jk,ci (cd m k (io g)),jk,.one (.sl 41 0 0 n),.raw (.int .i64 (i:Int)),jk,jk,jk,jk,jk,jk,jk,jk,jk,jk,jk,jk,jk,jk,jk,jk,jk,jk,jk,jk,jk,jk,jk,jk,jk,jk,jk,jk,jk,jk,.raw (.int .i64 (n:Int)),.raw (.int .i64 (i:Int)),jk,jk,jk,.raw (.int .i64 (m:Int)),.raw (.int .i64 (q.i:Int)),jk,jk,jk,jk,jk,jk,jk,jk,jk,jk,jk,jk,jk,jk,jk,jk,jk,jk,jk,jk],Hm [(41,gV 41 n m (part (im k f g) i q.i))]⟩) (fun q=>m-q.i) ⟨0,by omega⟩ ?_ ?_
   ·refine aj ⟨rfl,trivial⟩ ?_
    simp[b9,bo,bj]
   ·rintro⟨j,hj⟩
    simp only
    by_cases hm3:j<m
    ·have hr2:=cS k (io g) hm3
     have hD:=JX (de k (f i)) (de k (io g j)) (by rw[cq];omega) (by rw[cq,cq];omega) (fun z hz=>by
      obtain⟨p,hp,rfl⟩:=List.mem_map.1 hz
      exact hf i p him (List.mem_range.1 hp)) (fun z hz=>by
      obtain⟨p,hp,rfl⟩:=List.mem_map.1 hz
      exact(hg p j (List.mem_range.1 hp) hm3).mono (by omega))
     rw[cq,show fd (de k (f i)) (de k (io g j)) k=im k f g i j from rfl]at hD
     have g1:=cX (n:=n) (i:=i) 41 m him
     have g2:=eY m (part (im k f g) i j) him
     have g3:=bK (part (im k f g) i j i) hm3
     (refine aa [] fun K hK=>?_;simp(disch:=omega) only[kc,ab,ci,Hm,ak,ah,bA];apply hK)
     refine ae (af rfl (fun _=>aq ?_) (fun h=>by simp at h<;>omega))
     refine ae (aI ?_)
     (refine aa [] fun K hK=>?_;simp(disch:=omega) only[kc,ab];apply hK)
     ((refine dW bY [⟨13,_,_,_,hD⟩] [] (by kernel_rfl) (by simp) fun K hK=>?_);simp(disch:=omega) only[kc,kC,tZ,ar.a,ab,Nat.reduceAdd,ag,au,ao,aZ,cw,bH,g1,aA,cu,bG,hr,fR,hr2,ai,aN,aC,List.find?_cons,aD,aX,CallRes.plain,aF,aH,ap,noRefTV,am,aG,aE,bL,g2,aM,az,df,bJ,cb,fZ,g3,cellsOf,Nat.le_refl,isPure,putCells,jO,aS,aT];apply hK)
     show bT _ _ _ _
     ((refine aU [] [] (by simp) fun K hK=>?_);simp(disch:=omega) only[kc,ab,ak,ac,Value.oneCell',ah,bC];apply hK)
     refine⟨⟨j+1,by omega⟩,by simp only;omega,aj ⟨?_,trivial⟩ ?_⟩
     ·show _::_=_::_
      rw[dt fun a b _ _=>ji (im k f g) i j a b]
     ·simp[b9,bo,bj]
    ·have hjc:j=m:=by omega
     subst hjc
     (refine aa [] fun K hK=>?_;simp(disch:=omega) only[kc,ab,ci,Hm,ak,ah,bf];apply hK)
     refine ae (af rfl (fun h=>by simp at h<;>omega) (fun _=>bv ?_))
     show bT _ _ _ _
     ((refine aU [] [] (by simp) fun K hK=>?_);simp(disch:=omega) only[kc,ab,ak,ac,Value.oneCell',ah,bC];apply hK)
     refine⟨⟨i+1,by omega⟩,by simp only;omega,aj ⟨?_,trivial⟩ ?_⟩
     ·show _::_=_::_
      rw[dt fun a b _ hb=>kv (im k f g) i a b hb]
     ·simp[b9,bo,bj]
  ·have hin:i=n:=by omega
   subst hin
   (refine aa [] fun K hK=>?_;simp(disch:=omega) only[kc,ab,ci,Hm,ak,ah,bf];apply hK)
   refine ae (af rfl (fun h=>by simp at h<;>omega) (fun _=>bv ?_))
   show bT _ _ _ _
   have e:gV 41 i m (part (im k f g) i 0)=gV 41 i m (im k f g):=by
    show _::_=_::_
    rw[dt fun a b ha _=>ku (im k f g) a b ha]
   rw[e]
   refine bT.weak ((cQ 41 (jJ rfl)).trans (aj (tm:=[jk,jk,jk,jk,jk,jk,jk,jk,jk,jk,jk,ci (cd i m (im k f g)),jk,jk,jk,jk,jk,jk,jk,jk,jk,jk,jk,jk,jk,jk,jk,jk,jk,jk,jk,jk,jk,jk,jk,jk,jk,jk,jk,jk,jk,jk,jk,jk,jk,jk,jk,jk,jk,jk,jk,jk,jk,jk,jk,jk,jk,jk,jk,jk,jk,jk,jk,jk,jk,jk,jk,jk,jk,jk]) (l:=[]) trivial (by simp[b9,bo,bj];exact(IA (H:=Hm [(41,gV 41 i m (im k f g))]) (d:=41) (n:=i) (c:=m) (f:=im k f g) rfl).symm))) ?_
   (refine aa [] fun K hK=>?_;simp(disch:=omega) only[kc,ab,Nat.reduceAdd,ci,Hm,ac,Value.oneCell'];apply hK)
   (refine ay ⟨.inr rfl,aO rfl ?_ rfl⟩;simp(disch:=omega) only[bE,Tryz.results109,cY,aP,List.getElem?_cons_succ,List.getElem?_cons_zero,Option.bind_some,bX,Option.map_some])
theorem pw (n k m:Nat) (f g:Nat->Nat->Int) (hn1:1<=n) (hn:n<=16) (hk1:1<=k) (hk:k<=16) (hm1:1<=m) (hmm:m<=16) (hf: ∀i j:Nat,i<n->j<k->Sz (f i j) 16777216) (hg: ∀i j:Nat,i<k->j<m->Sz (g i j) 16777216):
  CallC Tryz.prog 63 [ci (cd n k f),ci (cd k m g)] ⟨[],ci (cd n m (im k f g))⟩:=by
 have hM:=J2 n k m f g hn1 hn hk1 hk hm1 hmm hf hg
 refine ax Tryz.func63 rfl (by kernel_rfl) ?_;rw[Tryz.ntmps63]
 (refine aa [] fun K hK=>?_;simp(disch:=omega) only[kc,ab,ci,Nat.reduceAdd,List.replicate,ac,Value.oneCell'];apply hK)
 (refine aa [⟨2,_,_,_,hM⟩] fun K hK=>?_;simp(disch:=omega) only[kc,ci,ar.a,ab,Nat.reduceAdd,ai,aN,aC,List.find?_cons,aD,aX,CallRes.plain,aF,aH,ap,noRefTV,am,aG,aE,aV,ak];apply hK)
 (refine aa [] fun K hK=>?_;simp(disch:=omega) only[kc,ab];apply hK)
 (refine ay ⟨.inr rfl,aO rfl ?_ rfl⟩;simp(disch:=omega) only[bE,Tryz.results63,aP,List.getElem?_cons_succ,List.getElem?_cons_zero,ci])
theorem vW {k:Nat} {f g:Nat->Nat->Int} {b c i j:Nat} (hf: ∀p,p<k->Sz (f i p) b) (hg: ∀p,p<k->Sz (g p j) c):Sz (im k f g i j) (b+c+k):=by
 refine vm (qX fun z hz=>?_) (qX fun z hz=>?_) k
 ·obtain⟨p,hp,rfl⟩:=List.mem_map.1 hz
  exact hf p (List.mem_range.1 hp)
 ·obtain⟨p,hp,rfl⟩:=List.mem_map.1 hz
  exact hg p (List.mem_range.1 hp)
def jX (n:Nat) (h t:Nat->Nat->Int):Nat->Nat->Int:=im n (im n (io t) h) t
theorem qi (n:Nat) (h t:Nat->Nat->Int) (hn1:1<=n) (hn:n<=16) (hh: ∀i j:Nat,i<n->j<n->Sz (h i j) 500) (ht: ∀i j:Nat,i<n->j<n->Sz (t i j) 500):
  CallC Tryz.prog 33 [ci (cd n n h),ci (cd n n t)] ⟨[],ci (cd n n (jX n h t))⟩:=by
 have c1:=qn n n t hn1 hn hn1 hn (fun i j hi hj=>(ht i j hi hj).mono (by omega))
 have c2:=pw n n n (io t) h hn1 hn hn1 hn hn1 hn (fun i j hi hj=>(ht j i hj hi).mono (by omega)) (fun i j hi hj=>(hh i j hi hj).mono (by omega))
 have c3:=pw n n n (im n (io t) h) t hn1 hn hn1 hn hn1 hn (fun i j hi hj=>(vW (b:=500) (c:=500) (fun p hp=>ht p i hp hi) (fun p hp=>hh p j hp hj)).mono (by omega)) (fun i j hi hj=>(ht i j hi hj).mono (by omega))
 refine ax Tryz.func33 rfl (by kernel_rfl) ?_;rw[Tryz.ntmps33]
 (refine aa [] fun K hK=>?_;simp(disch:=omega) only[kc,ab,ci,Nat.reduceAdd,List.replicate,ac,Value.oneCell'];apply hK)
 (refine aa [⟨1,_,_,_,c1⟩] fun K hK=>?_;simp(disch:=omega) only[kc,ci,ar.a,ab,Nat.reduceAdd,ai,aN,aC,List.find?_cons,aD,aX,CallRes.plain,aF,aH,ap,noRefTV,am,aG,aE,aV,ak];apply hK)
 (refine aa [⟨2,_,_,_,c2⟩,⟨4,_,_,_,c3⟩] fun K hK=>?_;simp(disch:=omega) only[kc,ci,ar.a,ab,Nat.reduceAdd,ai,aN,aC,List.find?_cons,aD,aX,CallRes.plain,aF,aH,ap,noRefTV,am,aG,aE,Nat.reduceBEq];apply hK)
 (refine ay ⟨.inr rfl,aO rfl ?_ rfl⟩;simp(disch:=omega) only[bE,Tryz.results33,aP,List.getElem?_cons_succ,List.getElem?_cons_zero,ci,jX])
def lI (F:Nat->Int):Nat->Int
 |0=>0
 |k+1=>lI F k+F k
theorem dQ {F G:Nat->Int}: ∀k,(∀p,p<k->F p=G p)->lI F k=lI G k
 |0,_=>rfl
 |k+1,h=>by rw[lI,lI,dQ k (fun p hp=>h p (by omega)),h k (by omega)]
theorem wE (F G:Nat->Int): ∀k,lI (fun p=>F p+G p) k=lI F k+lI G k
 |0=>rfl
 |k+1=>by rw[lI,lI,lI,wE F G k];omega
theorem th: ∀k,lI (fun _=>0) k=0
 |0=>rfl
 |k+1=>by rw[lI,th k];rfl
theorem wF {F:Nat->Int} {a:Nat}: ∀{k},a<k->(∀p,p<k->p≠a->F p=0)->lI F k=F a
 |k+1,h,h0=>by
  by_cases e:a=k
  ·subst e
   rw[lI,dQ a (G:=fun _=>0) (fun p hp=>h0 p (by omega) (by omega)),th];omega
  ·rw[lI,wF (show a<k by omega) (fun p hp hn=>h0 p (by omega) hn),h0 k (by omega) (by omega)];omega
theorem oC {k:Nat} (x y:Nat->Int): ∀l,l<=k->fd (de k x) (de k y) l=lI (fun p=>x p*y p) l
 |0,_=>rfl
 |l+1,h=>by
  show fd (de k x) (de k y) l+(de k x).getD l 0*(de k y).getD l 0=_
  rw[oC x y l (by omega),List.getD_eq_getElem?_getD,List.getD_eq_getElem?_getD,bK _ (by omega),bK _ (by omega)]
  rfl
theorem kp (k:Nat) (f g:Nat->Nat->Int) (i j:Nat):im k f g i j=lI (fun p=>f i p*g p j) k:=oC _ _ k (Nat.le_refl _)
def DJ (i j:Nat) (c:Int):Nat->Nat->Int:=upd km j i c
def Dr (m:Nat):Nat->Nat->Int:=fun a=>km (mW m a)
theorem Bz (m a:Nat):mW m (mW m a)=a:=by
 unfold mW
 by_cases h1:a=m
 ·subst h1;simp
 ·by_cases h2:a=m+1
  ·subst h2;simp
  ·simp[h1,h2]
theorem I0 {i j:Nat} {c:Int} (hji:j≠i) (p b:Nat):DJ i j c p b=km p b+(if p=j then(if b=i then c else 0)else 0):=by
 unfold DJ upd km
 by_cases h1:p=j
 ·subst h1
  by_cases h2:b=i
  ·subst h2;simp[hji]
  ·simp[h2]
 ·simp[h1]
theorem FM {n:Nat} {y:Nat->Int} {b:Nat} (hb:b<n):lI (fun p=>y p*km p b) n=y b:=by
 rw[wF hb (fun p hp hn=>by simp[km,hn])];simp[km]
theorem zK {n i j:Nat} {c:Int} (hji:j≠i) (hj:j<n) (x:Nat->Nat->Int) (a b:Nat) (hb:b<n):im n x (DJ i j c) a b=x a b+(if b=i then c*x a j else 0):=by
 rw[kp,dQ n (G:=fun p=>x a p*km p b+x a p*(if p=j then(if b=i then c else 0)else 0)) (fun p _=>by rw[I0 hji,Int.mul_add]),wE,FM hb]
 congr 1
 rw[wF hj (fun p _ hn=>by simp[hn])]
 by_cases h:b=i
 ·simp[h,Int.mul_comm]
 ·simp[h]
theorem DK {n i j:Nat} {c:Int} (hji:j≠i) (hj:j<n) (x:Nat->Nat->Int) (a b:Nat) (ha:a<n):im n (io (DJ i j c)) x a b=x a b+(if a=i then c*x j b else 0):=by
 have:=zK (c:=c) hji hj (io x) b a ha
 rw[kp]at this⊢
 rw[dQ n (G:=fun p=>io x b p*DJ i j c p a) (fun p _=>by rw[Int.mul_comm];rfl),this]
 rfl
theorem GG {n i j:Nat} {c:Int} (hji:j≠i) (hj:j<n) (f:Nat->Nat->Int) (a b:Nat) (ha:a<n) (hb:b<n):jX n f (DJ i j c) a b=fz f i j c a b:=by
 unfold jX
 rw[zK hji hj _ a b hb,DK hji hj f a b ha,DK hji hj f a j ha]
 unfold fz
 by_cases h1:a=i
 ·by_cases h2:b=i
  ·simp only[h1,h2,if_true];grind
  ·simp only[h1,h2,if_true,if_false];grind
 ·by_cases h2:b=i
  ·simp only[h1,h2,if_true,if_false];grind
  ·simp only[h1,h2,if_false];omega
theorem GX (m p b:Nat):km (mW m p) b=km p (mW m b):=by
 unfold km
 have:mW m p=b↔p=mW m b:=⟨fun h=>by rw[<- h,Bz],fun h=>by rw[h,Bz]⟩
 simp only[this]
theorem zL {n m:Nat} (hm:m+1<n) (x:Nat->Nat->Int) (a b:Nat) (hb:b<n):im n x (Dr m) a b=x a (mW m b):=by
 rw[kp,dQ n (G:=fun p=>x a p*km p (mW m b)) (fun p _=>by rw[<- GX];rfl),FM (oe hm hb)]
theorem JL {n m:Nat} (hm:m+1<n) (x:Nat->Nat->Int) (a b:Nat) (ha:a<n):im n (io (Dr m)) x a b=x (mW m a) b:=by
 have:=zL hm (io x) b a ha
 rw[kp]at this⊢
 rw[dQ n (G:=fun p=>io x b p*Dr m p a) (fun p _=>by rw[Int.mul_comm];rfl),this]
 rfl
theorem Je {n m:Nat} (hm:m+1<n) (f:Nat->Nat->Int) (a b:Nat) (ha:a<n) (hb:b<n):jX n f (Dr m) a b=jj f m a b:=by
 unfold jX
 rw[zL hm _ a b hb,JL hm f a _ ha];rfl
/-! Which change is made. -/
inductive Ch where
 |add (i j:Nat)
 |swp (m:Nat)
instance (f:Nat->Nat->Int) (i j:Nat):Decidable (SizF f i j):=by unfold SizF;exact inferInstance
instance (f:Nat->Nat->Int) (i:Nat):Decidable (LovF f i):=by unfold LovF;exact inferInstance
def scanJ (f:Nat->Nat->Int) (i:Nat):Nat->Option Nat
 |0=>none
 |j+1=>if SizF f i j then scanJ f i j else some j
def scanI (f:Nat->Nat->Int):Nat->Nat->Option Ch
 |0,_=>none
 |m+1,i=>match scanJ f i i with
  |some j=>some (.add i j)
  |none=>if 0<i/\ ¬LovF f i then some (.swp (i-1))else scanI f m (i+1)
def scanF (f:Nat->Nat->Int) (n:Nat):Option Ch:=scanI f n 0
theorem lB {f:Nat->Nat->Int} {i:Nat}: ∀{k},scanJ f i k=none-> ∀j,j<k->SizF f i j
 |k+1,h,j,hj=>by
  unfold scanJ at h
  split at h
  ·rename_i hs
   by_cases e:j=k
   ·subst e;exact hs
   ·exact lB h j (by omega)
  ·cases h
theorem ta {f:Nat->Nat->Int} {i j:Nat}: ∀{k},scanJ f i k=some j->j<k/\ ¬SizF f i j/\ ∀j',j<j'->j'<k->SizF f i j'
 |k+1,h=>by
  unfold scanJ at h
  split at h
  ·rename_i hs
   obtain⟨h1,h2,h3⟩:=ta h
   refine⟨by omega,h2,fun j' g1 g2=>?_⟩
   by_cases e:j'=k
   ·subst e;exact hs
   ·exact h3 j' g1 (by omega)
  ·rename_i hs
   injection h with h
   subst h
   exact⟨by omega,hs,fun j' g1 g2=>by omega⟩
def qm (f:Nat->Nat->Int) (i:Nat):Prop:=(∀j,j<i->SizF f i j)/\(0<i->LovF f i)
theorem s8 {f:Nat->Nat->Int}: ∀{m i},scanI f m i=none-> ∀i',i<=i'->i'<i+m->qm f i'
 |0,i,_,i',h1,h2=>by omega
 |m+1,i,h,i',h1,h2=>by
  unfold scanI at h
  split at h
  ·cases h
  ·rename_i hj
   split at h
   ·cases h
   ·rename_i hl
    by_cases e:i'=i
    ·subst e
     exact⟨lB hj,fun h0=>by
      by_cases hL:LovF f i'
      ·exact hL
      ·exact absurd ⟨h0,hL⟩ hl⟩
    ·exact s8 h i' (by omega) (by omega)
def Kr (f:Nat->Nat->Int):Ch->Prop
 | .add i j=>j<i/\ ¬SizF f i j/\(∀j',j<j'->j'<i->SizF f i j')/\ ∀i',i'<i->qm f i'
 | .swp m=> ¬LovF f (m+1)/\(∀j,j<m+1->SizF f (m+1) j)/\ ∀i',i'<m+1->qm f i'
def AF:Ch->Nat
 | .add i _=>i
 | .swp m=>m+1
theorem s9 {f:Nat->Nat->Int} {c:Ch}: ∀{m i},(∀i',i'<i->qm f i')->scanI f m i=some c->Kr f c/\AF c<i+m
 |m+1,i,hi,h=>by
  unfold scanI at h
  split at h
  ·rename_i j hj
   injection h with h
   subst h
   obtain⟨h1,h2,h3⟩:=ta hj
   exact⟨⟨h1,h2,h3,hi⟩,by simp[AF]⟩
  ·rename_i hj
   split at h
   ·rename_i hl
    injection h with h
    subst h
    have e:i-1+1=i:=by omega
    refine⟨⟨by rw[e];exact hl.2,by rw[e];exact lB hj,by rw[e];exact hi⟩,by simp[AF];omega⟩
   ·rename_i hl
    have:=s9 (m:=m) (i:=i+1) (fun i' h'=>by
     by_cases e:i'=i
     ·subst e
      exact⟨lB hj,fun h0=>by
       by_cases hL:LovF f i'
       ·exact hL
       ·exact absurd ⟨h0,hL⟩ hl⟩
     ·exact hi i' (by omega)) h
    exact⟨this.1,by omega⟩
theorem iz {f:Nat->Nat->Int} {n:Nat} {c:Ch} (h:scanF f n=some c):Kr f c/\AF c<n:=by
 have:=s9 (f:=f) (m:=n) (i:=0) (fun i' h=>by omega) h
 exact⟨this.1,by omega⟩
theorem Ab {f:Nat->Nat->Int} {n:Nat} (h:scanF f n=none):IZ f n:=fun i hi=>s8 (m:=n) (i:=0) h i (by omega) (by omega)
def tw (i:Nat):Nat:=i*(i-1)/2
def x6:Ch->Nat
 | .add i j=>tw i+(i-1-j)
 | .swp m=>tw (m+2)
theorem kF (i:Nat):tw (i+1)=tw i+i:=by
 unfold tw
 cases i with
 |zero=>rfl
 |succ i=>
  rw[Nat.add_sub_cancel,Nat.add_sub_cancel]
  have:(i+1+1)*(i+1)=(i+1)*i+2*(i+1):=by rw[Nat.add_mul,Nat.one_mul,Nat.mul_add,Nat.mul_add,Nat.add_mul];omega
  rw[this,Nat.add_mul_div_left _ _ (by omega)]
theorem jl {i j:Nat} (h:i<=j):tw i<=tw j:=by
 induction j with
 |zero=>have:i=0:=(by omega);subst this;exact Nat.le_refl _
 |succ j ih=>
  by_cases e:i=j+1
  ·subst e;exact Nat.le_refl _
  ·have:=ih (by omega);rw[kF];omega
def rankF (f:Nat->Nat->Int) (n:Nat):Nat:=match scanF f n with
 |some c=>x6 c
 |none=>tw n
theorem o7 (f:Nat->Nat->Int) (n:Nat):rankF f n<=tw n:=by
 unfold rankF
 split
 ·rename_i c hc
  obtain⟨h1,h2⟩:=iz hc
  cases c with
  |add i j=>
   have h2:i<n:=h2
   have:=jl (show i+1<=n by omega)
   rw[kF]at this
   obtain⟨h1,_⟩:=h1
   simp only[x6];omega
  |swp m=>
   have h2:m+1<n:=h2
   exact jl (show m+2<=n by omega)
 ·exact Nat.le_refl _
theorem Ht {f:Nat->Nat->Int} {n i j:Nat} (hj:j<i) (hi:i<n) (h1: ∀i',i'<i->qm f i') (h2: ∀j',j<=j'->j'<i->SizF f i j'):tw i+(i-1-j)<rankF f n:=by
 have hni:=jl (show i+1<=n by omega)
 rw[kF]at hni
 unfold rankF
 split
 ·rename_i c hc
  obtain⟨g1,g2⟩:=iz hc
  cases c with
  |add i' j'=>
   obtain⟨a1,a2,a3,a4⟩:=g1
   simp only[x6]
   rcases Nat.lt_trichotomy i' i with h|h|h
   ·exact absurd ((h1 i' h).1 j' a1) a2
   ·subst h
    by_cases e:j<=j'
    ·exact absurd (h2 j' e a1) a2
    ·omega
   ·have:=jl (show i+1<=i' by omega)
    rw[kF]at this
    omega
  |swp m=>
   obtain⟨a1,a2,a3⟩:=g1
   simp only[x6]
   by_cases h:m+1<i
   ·exact absurd ((h1 (m+1) h).2 (by omega)) a1
   ·have:=jl (show i+1<=m+2 by omega)
    rw[kF]at this
    omega
 ·omega
section
theorem xb {B:Nat} {d1 d0 x y u v:Int} (h1:0<d1) (h0:d0.natAbs<=B) (h:d1*x=d0*y+u*v):x.natAbs<=B*y.natAbs+u.natAbs*v.natAbs:=by
 have e1:d1.natAbs*x.natAbs=(d0*y+u*v).natAbs:=by rw[<- Int.natAbs_mul,h]
 have e2:=Int.natAbs_add_le (d0*y) (u*v)
 rw[Int.natAbs_mul,Int.natAbs_mul]at e2
 have e3:d0.natAbs*y.natAbs<=B*y.natAbs:=Nat.mul_le_mul_right _ h0
 have e4:x.natAbs<=d1.natAbs*x.natAbs:=Nat.le_mul_of_pos_left _ (by omega)
 omega
theorem EP {d1 d0 x y l:Int} (h1:0<d1) (h0:0<d0) (hx:0<x) (hy:0<y) (h:d1*x=d0*y+l*l):d1.natAbs*x.natAbs=d0.natAbs*y.natAbs+l.natAbs*l.natAbs:=by
 apply Int.ofNat_inj.1
 rw[Int.natCast_add,Int.natCast_mul,Int.natCast_mul,Int.natCast_mul,Int.natAbs_of_nonneg (by omega),Int.natAbs_of_nonneg (by omega),Int.natAbs_of_nonneg (by omega),Int.natAbs_of_nonneg (by omega),Int.natAbs_mul_self',h]
structure Def (f:Nat->Nat->Int) (n B:Nat):Prop where
 sym:SymF f n
 pos: ∀t,t<n->0<dk f (t+1)
 le: ∀k,k<=n->(dk f k).natAbs<=B
section
variable {f:Nat->Nat->Int} {n B:Nat}
theorem Def.ne (h:Def f n B): ∀t,t<n->dk f (t+1)≠0:=fun t ht=>by have:=h.pos t ht;omega
theorem Def.pos0 (h:Def f n B) {k:Nat} (hk:k<=n):0<dk f k:=by
 cases k with
 |zero=>rw[fB];omega
 |succ k=>exact h.pos k (by omega)
theorem Def.sylv (h:Def f n B) {k a b:Nat} (hk:k<n) (ha:a<n) (hb:b<n):dk f (k+1)*bk f k a b=dk f k*bk f (k+1) a b+bk f k a k*bk f k b k:=by
 have s:=Go.Proofs.YtpgghglbpcabkaaGreat.sylv f k (fun t ht=>h.ne t (by omega)) a b
 rw[nz h.sym k (by omega) (fun t ht=>h.ne t (by omega)) k b hk hb]at s
 omega
theorem Def.diag (h:Def f n B) {a:Nat} (ha:a<n): ∀m k,a-k=m->k<=a->0<bk f k a a
 |0,k,hm,hk=>by
  have:k=a:=by omega
  subst this
  rw[<- dw];exact h.pos k ha
 |m+1,k,hm,hk=>by
  have ih:=h.diag ha m (k+1) (by omega) (by omega)
  have s:=h.sylv (k:=k) (by omega) ha ha
  have p1:=h.pos k (by omega)
  have p0:=h.pos0 (k:=k) (by omega)
  have q1:=Int.mul_pos p0 ih
  have q2:0<=bk f k a k*bk f k a k:=by
   rcases Int.le_total 0 (bk f k a k)with h|h
   ·exact Int.mul_nonneg h h
   ·exact Int.mul_nonneg_of_nonpos_of_nonpos h h
  rcases Int.lt_or_le 0 (bk f k a a)with h|h
  ·exact h
  ·have:=Int.mul_nonpos_of_nonneg_of_nonpos (Int.le_of_lt p1) h
   omega
theorem Def.down (h:Def f n B) {a k:Nat} (ha:a<n) (hk:k<a):(bk f k a k).natAbs*(bk f k a k).natAbs<=B*(bk f k a a).natAbs/\(bk f (k+1) a a).natAbs<=B*(bk f k a a).natAbs:=by
 have s:=EP (h.pos k (by omega)) (h.pos0 (k:=k) (by omega)) (h.diag ha _ k rfl (by omega)) (h.diag ha _ (k+1) rfl (by omega)) (h.sylv (k:=k) (by omega) ha ha)
 have hB:=Nat.mul_le_mul_right (bk f k a a).natAbs (h.le (k+1) (by omega))
 have p0:=h.pos0 (k:=k) (by omega)
 have:=Nat.le_mul_of_pos_left (bk f (k+1) a a).natAbs (show 0<(dk f k).natAbs by omega)
 omega
theorem Def.nm (h:Def f n B) {a:Nat} (ha:a<n): ∀k,k<=a->(bk f k a a).natAbs<=B^k*(f a a).natAbs
 |0,_=>by rw[fA];simp
 |k+1,hk=>by
  have h1:=(h.down ha (show k<a by omega)).2
  have h2:=Nat.mul_le_mul_left B (h.nm ha k (by omega))
  rw[Nat.pow_succ,Nat.mul_comm (B^k) B,Nat.mul_assoc]
  omega
theorem Def.lam_le (h:Def f n B) {a k C:Nat} (ha:a<n) (hk:k<a) (hB:1<=B) (hC:(f a a).natAbs<=C):(bk f k a k).natAbs<=B^n*C:=by
 have h1:=(h.down ha hk).1
 have h2:=Nat.mul_le_mul_left B (h.nm ha k (by omega))
 have h3:(bk f k a k).natAbs<=(bk f k a k).natAbs*(bk f k a k).natAbs:=Nat.le_mul_self _
 have h4:B*(B^k*(f a a).natAbs)=B^(k+1)*(f a a).natAbs:=by rw[Nat.pow_succ,Nat.mul_comm (B^k) B,Nat.mul_assoc]
 have h5:B^(k+1)<=B^n:=Nat.pow_le_pow_right hB (by omega)
 have h6:B^(k+1)*(f a a).natAbs<=B^n*C:=Nat.mul_le_mul h5 hC
 omega
theorem Def.up (h:Def f n B) {a L:Nat} (ha:a<n) (hL: ∀k,k<a->(bk f k a k).natAbs<=L): ∀m k,a-k=m->k<=a->(bk f k a a).natAbs<=(B+L*L)*(B+1)^m
 |0,k,hm,hk=>by
  have:k=a:=by omega
  subst this
  rw[<- dw]
  have:=h.le (k+1) (by omega)
  simp
  omega
 |m+1,k,hm,hk=>by
  have ih:=h.up ha hL m (k+1) (by omega) (by omega)
  have s:=xb (h.pos k (by omega)) (h.le k (by omega)) (h.sylv (k:=k) (by omega) ha ha)
  have hl:=hL k (by omega)
  have h2:=Nat.mul_le_mul hl hl
  have h3:=Nat.mul_le_mul_left B ih
  have h4:L*L<=(B+L*L)*(B+1)^m:=Nat.le_trans (by omega) (Nat.le_mul_of_pos_right _ (Nat.pow_pos (by omega)))
  rw[Nat.pow_succ,<- Nat.mul_assoc,Nat.mul_add,Nat.mul_one,Nat.mul_comm _ B]
  omega
theorem Def.norm_le (h:Def f n B) {a L:Nat} (ha:a<n) (hL: ∀k,k<a->(bk f k a k).natAbs<=L):(f a a).natAbs<=(B+L*L)*(B+1)^n:=by
 have h1:=h.up ha hL a 0 rfl (by omega)
 rw[fA]at h1
 exact Nat.le_trans h1 (Nat.mul_le_mul_left _ (Nat.pow_le_pow_right (by omega) (by omega)))
theorem Def.ent_up (h:Def f n B) {a b L:Nat} (ha:a<n) (hb:b<a) (hL: ∀a k,a<n->k<a->(bk f k a k).natAbs<=L): ∀m k,b-k=m->k<=b->(bk f k a b).natAbs<=(L+L*L)*(B+1)^m
 |0,k,hm,hk=>by
  have:k=b:=by omega
  subst this
  have:=hL a k ha hb
  simp
  omega
 |m+1,k,hm,hk=>by
  have ih:=h.ent_up ha hb hL m (k+1) (by omega) (by omega)
  have s:=xb (h.pos k (by omega)) (h.le k (by omega)) (h.sylv (k:=k) (a:=a) (b:=b) (by omega) ha (by omega))
  have h2:=Nat.mul_le_mul (hL a k ha (by omega)) (hL b k (by omega) (by omega))
  have h3:=Nat.mul_le_mul_left B ih
  have h4:L*L<=(L+L*L)*(B+1)^m:=Nat.le_trans (by omega) (Nat.le_mul_of_pos_right _ (Nat.pow_pos (by omega)))
  rw[Nat.pow_succ,<- Nat.mul_assoc,Nat.mul_add,Nat.mul_one,Nat.mul_comm _ B]
  omega
theorem Def.ent_le (h:Def f n B) {L:Nat} (hL: ∀a k,a<n->k<a->(bk f k a k).natAbs<=L) {a b:Nat} (ha:a<n) (hb:b<n):(f a b).natAbs<=(B+L+L*L)*(B+1)^n:=by
 have key: ∀a b,a<n->b<a->(f a b).natAbs<=(B+L+L*L)*(B+1)^n:=fun a b ha hb=>by
  have h1:=h.ent_up ha hb hL b 0 rfl (by omega)
  rw[fA]at h1
  refine Nat.le_trans h1 (Nat.mul_le_mul (by omega) (Nat.pow_le_pow_right (by omega) (by omega)))
 rcases Nat.lt_trichotomy a b with h'|h'|h'
 ·rw[h.sym a ha b hb];exact key b a hb h'
 ·subst h'
  have h1:=h.norm_le ha (fun k hk=>hL a k ha hk)
  exact Nat.le_trans h1 (Nat.mul_le_mul_right _ (by omega))
 ·exact key a b ha h'
end
/-! The numbers of the reduction. -/
section
variable {f:Nat->Nat->Int} {n B:Nat}
def cN (n B:Nat):Nat:=(B+B*B)*(B+1)^n
def l0 (n B:Nat):Nat:=B^n*cN n B
theorem td (h:Def f n B) {i j:Nat} (hi:i<n) (hj:j<i):SizF f i j↔2*((bk f j i j).natAbs:Int)<=dk f (j+1):=by
 rw[SizF,nQ h.pos (by omega),jI h.pos (by omega)]
theorem zG (h:Def f n B) {i:Nat} (hi:i<n) (h0:0<i):LovF f i↔3*(dk f i*dk f i)<=4*(dk f (i-1)*dk f (i+1)+bk f (i-1) i (i-1)*bk f (i-1) i (i-1)):=by
 rw[LovF,nQ h.pos (by omega),jI h.pos (by omega),jI h.pos (by omega),jI h.pos (by omega)]
theorem Af (h:Def f n B) {i j:Nat} (hi:i<n) (hj:j<i) (hs:SizF f i j):(bk f j i j).natAbs<=B:=by
 have h1:=(td h hi hj).1 hs
 have h2:=h.le (j+1) (by omega)
 omega
theorem pV (h:Def f n B) {i:Nat} (hi:i<n) (hs: ∀j,j<i->SizF f i j):(f i i).natAbs<=cN n B:=h.norm_le hi fun k hk=>Af h hi hk (hs k hk)
def Jn (f:Nat->Nat->Int) (n B:Nat):Prop:=(∀a,a<n->(f a a).natAbs<=cN n B)\/
 ∃i,i<n/\(∀a,a<n->a≠i->(f a a).natAbs<=cN n B)/\(∀i',i'<i->qm f i')/\ ∃s,s<=i/\(∀j',s<=j'->j'<i->SizF f i j')/\ ∀k,k<i->(bk f k i k).natAbs+2<=(l0 n B+2)*(B+2)^(i-s)
def lM (n B:Nat):Nat:=(l0 n B+2)*(B+2)^n
theorem Jn.lam (h:Def f n B) (hB:1<=B) (hj:Jn f n B): ∀a k,a<n->k<a->(bk f k a k).natAbs<=lM n B:=by
 have h1:l0 n B<=lM n B:=Nat.le_trans (by omega) (Nat.le_mul_of_pos_right _ (Nat.pow_pos (by omega)))
 have h2: ∀e,e<=n->(l0 n B+2)*(B+2)^e<=lM n B:=fun e he=>Nat.mul_le_mul_left _ (Nat.pow_le_pow_right (by omega) he)
 rcases hj with hj|⟨i,hi,hj,_,s,hs,_,hl⟩
 ·exact fun a k ha hk=>Nat.le_trans (h.lam_le ha hk hB (hj a ha)) h1
 ·intro a k ha hk
  by_cases e:a=i
  ·subst e
   have:=hl k hk
   have:=h2 (a-s) (by omega)
   omega
  ·exact Nat.le_trans (h.lam_le ha hk hB (hj a ha e)) h1
def eN (n B:Nat):Nat:=(B+lM n B+lM n B*lM n B)*(B+1)^n
theorem Jn.ent (h:Def f n B) (hB:1<=B) (hj:Jn f n B) {a b:Nat} (ha:a<n) (hb:b<n):(f a b).natAbs<=eN n B:=h.ent_le (hj.lam h hB) ha hb
end
end
section
theorem Hp {l d:Int} (hd:0<d):2*((l+ -(qF l d)*d).natAbs:Int)<=d:=by
 unfold qF
 have h1:=Int.emod_add_mul_ediv (2*l+d) (2*d)
 have h2:=Int.emod_nonneg (2*l+d) (show 2*d≠0 by omega)
 have h3:=Int.emod_lt_of_pos (2*l+d) (show 0<2*d by omega)
 generalize(2*l+d)/(2*d)=q at*
 have e:2*d*q=2*(q*d):=by rw[Int.mul_assoc,Int.mul_comm d q]
 rw[e]at h1
 have e2: -q*d= -(q*d):=Int.neg_mul q d
 rw[e2]
 omega
theorem zW {l d:Int} (hd:0<d):(qF l d).natAbs<=l.natAbs+1:=by
 unfold qF
 have h1:=Int.emod_add_mul_ediv (2*l+d) (2*d)
 have h2:=Int.emod_nonneg (2*l+d) (show 2*d≠0 by omega)
 have h3:=Int.emod_lt_of_pos (2*l+d) (show 0<2*d by omega)
 generalize(2*l+d)/(2*d)=q at*
 have e:2*d*q=2*(d*q):=Int.mul_assoc 2 d q
 rw[e]at h1
 have e2:(d*q).natAbs=d.natAbs*q.natAbs:=Int.natAbs_mul d q
 have e3:l.natAbs<=d.natAbs*l.natAbs:=Nat.le_mul_of_pos_left _ (by omega)
 rcases Nat.lt_or_ge (l.natAbs+1) q.natAbs with h|h
 ·exfalso
  have h4:=Nat.mul_le_mul_left d.natAbs (show l.natAbs+2<=q.natAbs by omega)
  rw[Nat.mul_add]at h4
  omega
 ·exact h
section
variable {f:Nat->Nat->Int} {n B:Nat}
theorem DL (hs:SymF f n) {i j:Nat} (c:Int) (hj:j<n):SymF (fz f i j c) n:=fun a ha b hb=>by
 by_cases hab:a=b
 ·subst hab;rfl
 unfold fz
 rw[hs a ha b hb]
 by_cases h1:a=i
 ·by_cases h2:b=i
  ·omega
  ·simp only[h1,h2,if_true,if_false];rw[hs j hj b hb];omega
 ·by_cases h2:b=i
  ·simp only[h1,h2,if_true,if_false];rw[hs a ha j hj];omega
  ·simp only[h1,h2,if_false]
theorem Def.add (h:Def f n B) {i j:Nat} (c:Int) (hji:j<i) (hi:i<n):Def (fz f i j c) n B:=by
 obtain⟨h1,_⟩:=jp h.sym h.ne c hji hi
 exact⟨DL h.sym c (by omega),fun t ht=>by rw[h1 (t+1) (by omega)];exact h.pos t ht,fun k hk=>by rw[h1 k hk];exact h.le k hk⟩
theorem uT (h:Def f n B) {i j:Nat} (c:Int) (hji:j<i) (hi:i<n) {i':Nat} (hi':i'<i) (hr:qm f i'):qm (fz f i j c) i':=by
 have h':=h.add c hji hi
 obtain⟨h1,h2,h3⟩:=jp h.sym h.ne c hji hi
 have hb: ∀k,k<i'->bk (fz f i j c) k i' k=bk f k i' k:=fun k hk=>by
  by_cases e:k<=j
  ·rw[h2 k i' k e,rD (by omega) (by omega)]
  ·exact h3 k i' k (by omega) (by omega) (by omega) (by omega)
 refine⟨fun k hk=>?_,fun h0=>?_⟩
 ·rw[td h' (by omega) hk,hb k hk,h1 _ (by omega)]
  exact(td h (by omega) hk).1 (hr.1 k hk)
 ·rw[zG h' (by omega) h0,hb _ (by omega),h1 _ (by omega),h1 _ (by omega),h1 _ (by omega)]
  exact(zG h (by omega) h0).1 (hr.2 h0)
def cF (f:Nat->Nat->Int) (i j:Nat):Int:= -(qF (lam f i j) (dd f (j+1)))
theorem DU (h:Def f n B) {i j:Nat} (hj:j<n):cF f i j= -(qF (bk f j i j) (dk f (j+1))):=by rw[cF,nQ h.pos hj,jI h.pos (by omega)]
theorem wD (h:Def f n B) {i j:Nat} (hji:j<i) (hi:i<n) {j':Nat} (h1:j<=j') (h2:j'<i) (hs:j<j'->SizF f i j'):SizF (fz f i j (cF f i j)) i j':=by
 have h':=h.add (cF f i j) hji hi
 obtain⟨g1,g2,g3⟩:=jp h.sym h.ne (cF f i j) hji hi
 rw[td h' hi h2,g1 _ (by omega)]
 by_cases e:j'=j
 ·subst e
  rw[g2 j' i j' (by omega)]
  have:fz (bk f j') i j' (cF f i j') i j'=bk f j' i j'+cF f i j'*dk f (j'+1):=by
   unfold fz
   have hn: ¬j'=i:=by omega
   simp only[if_true,hn,if_false]
   rw[dw];omega
  rw[this,DU h (by omega)]
  exact Hp (h.pos j' (by omega))
 ·rw[g3 j' i j' (by omega) (by omega) hi (by omega)]
  exact(td h hi h2).1 (hs (by omega))
theorem IU (h:Def f n B) (hB:1<=B) (hJ:Jn f n B) {i j:Nat} (hF:Kr f (.add i j)) (hi:i<n):Jn (fz f i j (cF f i j)) n B:=by
 obtain⟨hji,hns,hs,hr⟩:=hF
 obtain⟨g1,g2,g3⟩:=jp h.sym h.ne (cF f i j) hji hi
 have hoff: ∀a,a≠i->fz f i j (cF f i j) a a=f a a:=fun a ha=>rD ha ha
 -- the new lambdas of row i
 have hnew: ∀M:Nat,(∀k,k<i->(bk f k i k).natAbs+2<=M)-> ∀k,k<i->(bk (fz f i j (cF f i j)) k i k).natAbs+2<=M*(B+2):=fun M hM k hk=>by
  have hMk:=hM k hk
  have hMj:=hM j hji
  have e0:M*(B+2)=M*B+2*M:=by rw[Nat.mul_add,Nat.mul_comm M 2]
  rcases Nat.lt_trichotomy k j with e|e|e
  ·rw[g2 k i k (by omega)]
   have e1:fz (bk f k) i j (cF f i j) i k=bk f k i k+cF f i j*bk f k j k:=by
    unfold fz
    have hn: ¬k=i:=by omega
    simp only[if_true,hn,if_false];omega
   rw[e1]
   have a1:=Int.natAbs_add_le (bk f k i k) (cF f i j*bk f k j k)
   rw[Int.natAbs_mul]at a1
   have a2:(cF f i j).natAbs<=(bk f j i j).natAbs+1:=by rw[DU h (by omega),Int.natAbs_neg];exact zW (h.pos j (by omega))
   have a3:(bk f k j k).natAbs<=B:=Af h (by omega) e ((hr j hji).1 k e)
   have a4:=Nat.mul_le_mul (show(cF f i j).natAbs<=M by omega) a3
   omega
  ·subst e
   have hz:=wD h hji hi (Nat.le_refl k) hk (fun h=>by omega)
   have:=Af (h.add (cF f i k) hji hi) hi hk hz
   have:B<=M*B:=Nat.le_mul_of_pos_left _ (by omega)
   omega
  ·rw[g3 k i k (by omega) (by omega) hi (by omega)]
   have:0<=M*B:=Nat.zero_le _
   omega
 have hfin: ∀M e:Nat,1<=e->e<=i-j->M*(B+2)<=(l0 n B+2)*(B+2)^e->(∀a,a<n->a≠i->(f a a).natAbs<=cN n B)->(∀k,k<i->(bk f k i k).natAbs+2<=M)->Jn (fz f i j (cF f i j)) n B:=fun M e he1 he2 hMe hA hM=>by
  refine .inr ⟨i,hi,fun a ha hne=>by rw[hoff a hne];exact hA a ha hne,fun i' hi'=>uT h _ hji hi hi' (hr i' hi'),j,by omega,fun j' h1 h2=>wD h hji hi h1 h2 (fun h3=>hs j' h3 h2),fun k hk=>?_⟩
  refine Nat.le_trans (hnew M hM k hk) (Nat.le_trans hMe (Nat.mul_le_mul_left _ (Nat.pow_le_pow_right (by omega) he2)))
 rcases hJ with hA|⟨i1,hi1,hA,hr1,s,hs1,hs2,hl⟩
 ·refine hfin (l0 n B+2) 1 (by omega) (by omega) (by rw[Nat.pow_one];exact Nat.le_refl _) (fun a ha _=>hA a ha) (fun k hk=>?_)
  have:(bk f k i k).natAbs<=l0 n B:=h.lam_le hi hk hB (hA i hi)
  omega
 ·by_cases e:i1=i
  ·subst e
   have hjs:j<s:=by
    rcases Nat.lt_or_ge j s with h'|h'
    ·exact h'
    ·exact absurd (hs2 j h' hji) hns
   refine hfin ((l0 n B+2)*(B+2)^(i1-s)) (i1-s+1) (by omega) (by omega) (by rw[Nat.pow_succ,Nat.mul_assoc];exact Nat.le_refl _) hA hl
  ·have hall:(f i1 i1).natAbs<=cN n B:=by
    rcases Nat.lt_or_ge i1 i with h'|h'
    ·exact pV h hi1 (hr i1 h').1
    ·exact absurd ((hr1 i (by omega)).1 j hji) hns
   have hA': ∀a,a<n->(f a a).natAbs<=cN n B:=fun a ha=>by
    by_cases e':a=i1
    ·subst e';exact hall
    ·exact hA a ha e'
   refine hfin (l0 n B+2) 1 (by omega) (by omega) (by rw[Nat.pow_one];exact Nat.le_refl _) (fun a ha _=>hA' a ha) (fun k hk=>?_)
   have:(bk f k i k).natAbs<=l0 n B:=h.lam_le hi hk hB (hA' i hi)
   omega
theorem uY (h:Def f n B) {m:Nat} (hm:m+1<n) (hl: ¬LovF f (m+1)):4*dk (jj f m) (m+1)<3*dk f (m+1)/\0<dk (jj f m) (m+1):=by
 obtain⟨h1,h2⟩:=tu h.sym h.pos hm
 refine⟨?_,h2⟩
 have h3: ¬3*(dk f (m+1)*dk f (m+1))<=4*(dk f m*dk f (m+2)+bk f m (m+1) m*bk f m (m+1) m):=fun hh=>hl ((zG h hm (by omega)).2 hh)
 rw[<- h1]at h3
 have p:=h.pos m (by omega)
 rcases Int.lt_or_le (4*dk (jj f m) (m+1)) (3*dk f (m+1))with h4|h4
 ·exact h4
 ·exfalso
  have h5:=Int.mul_le_mul_of_nonneg_left h4 (Int.le_of_lt p)
  have e1:dk f (m+1)*(3*dk f (m+1))=3*(dk f (m+1)*dk f (m+1)):=Int.mul_left_comm _ _ _
  have e2:dk f (m+1)*(4*dk (jj f m) (m+1))=4*(dk f (m+1)*dk (jj f m) (m+1)):=Int.mul_left_comm _ _ _
  omega
theorem Def.swap (h:Def f n B) {m:Nat} (hm:m+1<n) (hl: ¬LovF f (m+1)):Def (jj f m) n B:=by
 obtain⟨h1,_⟩:=mo h.sym h.pos hm
 obtain⟨g1,g2⟩:=uY h hm hl
 have p:=h.pos m (by omega)
 refine⟨fun a ha b hb=>h.sym _ (oe hm ha) _ (oe hm hb),fun t ht=>?_,fun k hk=>?_⟩
 ·by_cases e:t=m
  ·subst e;exact g2
  ·rw[h1 (t+1) (by omega) (by omega)];exact h.pos t ht
 ·by_cases e:k=m+1
  ·subst e
   have:=h.le (m+1) hk
   omega
  ·rw[h1 k hk e];exact h.le k hk
theorem Gh (h:Def f n B) (hJ:Jn f n B) {m:Nat} (hF:Kr f (.swp m)) (hm:m+1<n):Jn (jj f m) n B:=by
 obtain⟨hnl,hs,hr⟩:=hF
 have hA: ∀a,a<n->(f a a).natAbs<=cN n B:=by
  rcases hJ with hA|⟨i,hi,hA,hr1,_⟩
  ·exact hA
  ·intro a ha
   by_cases e:a=i
   ·subst e
    rcases Nat.lt_trichotomy a (m+1)with h'|h'|h'
    ·exact pV h ha (hr a h').1
    ·subst h';exact pV h ha hs
    ·exact absurd ((hr1 (m+1) h').2 (by omega)) hnl
   ·exact hA a ha e
 exact .inl fun a ha=>hA _ (oe hm ha)
def prD (f:Nat->Nat->Int):Nat->Nat
 |0=>1
 |k+1=>prD f k*(dk f (k+1)).natAbs
theorem pT {g:Nat->Nat->Int}: ∀k,(∀t,t<k->dk g (t+1)=dk f (t+1))->prD g k=prD f k
 |0,_=>rfl
 |k+1,h=>by rw[prD,prD,pT k (fun t ht=>h t (by omega)),h k (by omega)]
theorem Br (h:Def f n B): ∀k,k<=n->0<prD f k
 |0,_=>by simp[prD]
 |k+1,hk=>by
  have:=h.pos k (by omega)
  exact Nat.mul_pos (Br h k (by omega)) (by omega)
theorem Fg (h:Def f n B): ∀k,k<=n->prD f k<=B^k
 |0,_=>by simp[prD]
 |k+1,hk=>by rw[prD,Nat.pow_succ];exact Nat.mul_le_mul (Fg h k (by omega)) (h.le (k+1) hk)
theorem xY (h:Def f n B) {m:Nat} (hm:m+1<n) (hl: ¬LovF f (m+1)): ∀k,m<k->k<=n->4*prD (jj f m) k<=3*prD f k
 |k+1,hk,hkn=>by
  obtain⟨h1,_⟩:=mo h.sym h.pos hm
  obtain⟨g1,g2⟩:=uY h hm hl
  have p:=h.pos m (by omega)
  rw[prD,prD]
  by_cases e:k=m
  ·subst e
   rw[pT k (fun t ht=>h1 (t+1) (by omega) (by omega)),Nat.mul_left_comm,Nat.mul_left_comm 3]
   exact Nat.mul_le_mul_left _ (by omega)
  ·have ih:=xY h hm hl k (by omega) (by omega)
   rw[h1 (k+1) hkn (by omega),<- Nat.mul_assoc,<- Nat.mul_assoc]
   exact Nat.mul_le_mul_right _ ih
end
/-! Bounds of the minors of a matrix of small entries. -/
theorem ED {r:Nat->Int} (hr: ∀c,(r c).natAbs<=9) {M:Nat}: ∀(cs:List Nat) (N:Nat) (F:List Nat->Int),cs.length<=N->(∀l,l.length<=N->(F l).natAbs<=M)->(dX r F cs).natAbs<=cs.length*(9*M)
 |[],_,_,_,_=>by simp[dX]
 |c::cs,N,F,hN,hF=>by
  rw[dX]
  have h1:=Int.natAbs_sub_le (r c*F cs) (dX r (fun l=>F (c::l)) cs)
  have h2:=ED hr cs (N-1) (fun l=>F (c::l)) (by simp at hN;omega) (fun l hl=>hF (c::l) (by simp at hN⊢;omega))
  rw[Int.natAbs_mul]at h1
  have h3:=Nat.mul_le_mul (hr c) (hF cs (by simp at hN;omega))
  rw[List.length_cons,Nat.add_mul,Nat.one_mul]
  omega
theorem ID {f:Nat->Nat->Int} (hf: ∀a b,(f a b).natAbs<=9): ∀k l,l.length<=8->(om f k l).natAbs<=72^k
 |0,l,_=>by simp[om]
 |k+1,l,hl=>by
  rw[om]
  have:=ED (hf k) l 8 (om f k) hl (fun l hl=>ID hf k l hl)
  have h2:l.length*(9*72^k)<=8*(9*72^k):=Nat.mul_le_mul_right _ hl
  rw[Nat.pow_succ]
  omega
theorem AL: ∀k,(mI k).length=k
 |0=>rfl
 |k+1=>by rw[mI,List.length_cons,AL k]
abbrev bB:Nat:=722204136308736
theorem J7 {f:Nat->Nat->Int} (hf: ∀a b,(f a b).natAbs<=9) {k:Nat} (hk:k<=8):(dk f k).natAbs<=bB:=by
 have h1:=ID hf k (mI k) (by rw[AL];exact hk)
 have h2:72^k<=72^8:=Nat.pow_le_pow_right (by omega) hk
 have h3:(72:Nat)^8=bB:=by decide
 unfold dk
 omega
end
section
def KK (f:Nat->Nat->Int):Ch->Nat->Nat->Int
 | .add i j=>fz f i j (cF f i j)
 | .swp m=>jj f m
def Iy (f:Nat->Nat->Int):Ch->Nat->Nat->Int
 | .add i j=>DJ i j (cF f i j)
 | .swp m=>Dr m
inductive Rch (n:Nat):(Nat->Nat->Int)->(Nat->Nat->Int)->(Nat->Nat->Int)->(Nat->Nat->Int)->Prop
 |done (f t:Nat->Nat->Int) (h:scanF f n=none):Rch n f t f t
 |step (f t h T:Nat->Nat->Int) (c:Ch) (hc:scanF f n=some c) (hr:Rch n (KK f c) (im n t (Iy f c)) h T):Rch n f t h T
structure RedI (n:Nat) (f0 f t:Nat->Nat->Int) (s adds:Nat):Prop where
 dfn:Def f n bB
 jn:Jn f n bB
 det:dk f n=dk f0 n
 pot:4^s*prD f n<=3^s*bB^8
 cnt:adds<=28*s+rankF f n
 szt: ∀a b,a<n->b<n->Sz (t a b) (1+45*adds)
theorem EC: ∀n,n<9->lM n bB+1<4294967296^41:=by decide+kernel
theorem Ee: ∀n,n<9->eN n bB<4294967296^100:=by decide+kernel
theorem wJ {n:Nat} (h:n<=8):tw n<=28:=Nat.le_trans (jl h) (by decide)
theorem Hk (K:Nat) (hK: ¬4^K<=3^K*bB^8) (s:Nat) (hs:K<=s) (h1:4^s<=3^s*bB^8):False:=by
 obtain⟨r,rfl⟩: ∃r,s=K+r:=⟨s-K,by omega⟩
 rw[Nat.pow_add,Nat.pow_add]at h1
 have h2:3^K*3^r*bB^8<=3^K*bB^8*4^r:=by
  rw[Nat.mul_assoc,Nat.mul_comm (3^r),<- Nat.mul_assoc]
  exact Nat.mul_le_mul_left _ (Nat.pow_le_pow_left (by omega) r)
 exact hK (Nat.le_of_mul_le_mul_right (Nat.le_trans h1 h2) (Nat.pow_pos (by omega)))
theorem Hl: ¬4^970<=3^970*bB^8:=by decide+kernel
section
variable {n:Nat} {f0 f t:Nat->Nat->Int} {s adds:Nat}
theorem RedI.s_le (h:RedI n f0 f t s adds):s<970:=by
 rcases Nat.lt_or_ge s 970 with hs|hs
 ·exact hs
 ·exfalso
  have p1:=Br h.dfn n (Nat.le_refl _)
  have h1:4^s<=3^s*bB^8:=Nat.le_trans (Nat.le_mul_of_pos_right _ p1) h.pot
  exact Hk 970 Hl s hs h1
theorem RedI.adds_le (h:RedI n f0 f t s adds) (hn:n<=8):adds<=27160:=by
 have h1:=h.s_le
 have h2:=h.cnt
 have h3:=o7 f n
 have h4:=wJ hn
 omega
theorem RedI.szf (h:RedI n f0 f t s adds) (hn:n<=8) {a b:Nat} (ha:a<n) (hb:b<n):Sz (f a b) 100:=by
 have h1:=h.jn.ent h.dfn (by decide) ha hb
 exact Nat.lt_of_le_of_lt h1 (Ee n (by omega))
theorem RedI.szc (h:RedI n f0 f t s adds) (hn:n<=8) {i j:Nat} (hi:i<n) (hj:j<i):Sz (cF f i j) 41:=by
 rw[DU h.dfn (by omega)]
 have h1:=zW (l:=bk f j i j) (h.dfn.pos j (by omega))
 have h2:=h.jn.lam h.dfn (by decide) i j hi hj
 have h3:=EC n (by omega)
 unfold Sz
 rw[Int.natAbs_neg]
 generalize 4294967296^41=p at*
 omega
theorem Dd {c:Ch} (h:scanF f n=some c):rankF f n=x6 c:=by unfold rankF;rw[h]
theorem RedI.add (h:RedI n f0 f t s adds) (hn:n<=8) {i j:Nat} (hc:scanF f n=some (.add i j)):RedI n f0 (fz f i j (cF f i j)) (im n t (DJ i j (cF f i j))) s (adds+1)/\rankF f n<rankF (fz f i j (cF f i j)) n:=by
 obtain⟨hF,hi⟩:=iz hc
 have hi:i<n:=hi
 obtain⟨hji,hns,hs,hr⟩:=id hF
 have hrk:rankF f n<rankF (fz f i j (cF f i j)) n:=by
  rw[Dd hc]
  exact Ht hji hi (fun i' hi'=>uT h.dfn _ hji hi hi' (hr i' hi')) (fun j' h1 h2=>wD h.dfn hji hi h1 h2 (fun h3=>hs j' h3 h2))
 obtain⟨g1,_⟩:=jp h.dfn.sym h.dfn.ne (cF f i j) hji hi
 have hcn:=h.cnt
 refine⟨⟨h.dfn.add _ hji hi,IU h.dfn (by decide) h.jn hF hi,by rw[g1 n (Nat.le_refl _)];exact h.det,by rw[pT n (fun t ht=>g1 (t+1) (by omega))];exact h.pot,by omega,fun a b ha hb=>?_⟩,hrk⟩
 rw[zK (by omega) (by omega) t a b hb]
 have z1:=h.szt a b ha hb
 split
 ·have z2:=(h.szc hn hi hji).mul (h.szt a j ha (by omega))
  exact(Sz.add (z1.mono (l:=41+(1+45*adds)) (by omega)) z2).mono (by omega)
 ·rw[Int.add_zero];exact z1.mono (by omega)
theorem RedI.swap (h:RedI n f0 f t s adds) (hn:n<=8) {m:Nat} (hc:scanF f n=some (.swp m)):RedI n f0 (jj f m) (im n t (Dr m)) (s+1) adds:=by
 obtain⟨hF,hm⟩:=iz hc
 have hm:m+1<n:=hm
 obtain⟨hnl,_,_⟩:=id hF
 obtain⟨g1,_⟩:=mo h.dfn.sym h.dfn.pos hm
 have hcn:=h.cnt
 have h3:=o7 f n
 have h4:=wJ hn
 refine⟨h.dfn.swap hm hnl,Gh h.dfn h.jn hF hm,by rw[g1 n (Nat.le_refl _) (by omega)];exact h.det,?_,by omega,fun a b ha hb=>?_⟩
 ·have p:=xY h.dfn hm hnl n (by omega) (Nat.le_refl _)
  have q:=Nat.mul_le_mul_left (4^s) p
  have e1:4^(s+1)*prD (jj f m) n=4^s*(4*prD (jj f m) n):=by rw[Nat.pow_succ,Nat.mul_assoc]
  have e2:4^s*(3*prD f n)=3*(4^s*prD f n):=Nat.mul_left_comm _ _ _
  have e3:3^(s+1)*bB^8=3*(3^s*bB^8):=by rw[Nat.pow_succ,Nat.mul_comm (3^s) 3,Nat.mul_assoc]
  rw[e1,e3]
  rw[e2]at q
  exact Nat.le_trans q (Nat.mul_le_mul_left 3 h.pot)
 ·rw[zL hm t a b hb];exact h.szt a _ ha (oe hm hb)
def IB (n:Nat) (f:Nat->Nat->Int) (s:Nat):Nat:=(970-s)*30+(29-rankF f n)
theorem RedI.mu_add (h:RedI n f0 f t s adds) (hn:n<=8) {i j:Nat} (hc:scanF f n=some (.add i j)):IB n (fz f i j (cF f i j)) s<IB n f s:=by
 have h1:=(h.add hn hc).2
 have h2:=o7 (fz f i j (cF f i j)) n
 have h3:=wJ hn
 unfold IB
 omega
theorem RedI.mu_swap (h:RedI n f0 f t s adds) (hn:n<=8) {m:Nat} (hc:scanF f n=some (.swp m)):IB n (jj f m) (s+1)<IB n f s:=by
 have h1:=(h.swap hn hc).s_le
 have h2:=o7 f n
 have h3:=wJ hn
 unfold IB
 omega
theorem n8 (hn:n<=8): ∀k f t s adds,IB n f s<=k->RedI n f0 f t s adds-> ∃h T,Rch n f t h T
 |0,f,t,s,adds,hk,h=>by
  cases hc:scanF f n with
  |none=>exact⟨f,t,.done f t hc⟩
  |some c=>
   cases c with
   |add i j=>have:=h.mu_add hn hc;omega
   |swp m=>have:=h.mu_swap hn hc;omega
 |k+1,f,t,s,adds,hk,h=>by
  cases hc:scanF f n with
  |none=>exact⟨f,t,.done f t hc⟩
  |some c=>
   cases c with
   |add i j=>
    have:=h.mu_add hn hc
    obtain⟨g,T,hr⟩:=n8 hn k _ _ _ _ (by omega) (h.add hn hc).1
    exact⟨g,T,.step f t g T _ hc hr⟩
   |swp m=>
    have:=h.mu_swap hn hc
    obtain⟨g,T,hr⟩:=n8 hn k _ _ _ _ (by omega) (h.swap hn hc)
    exact⟨g,T,.step f t g T _ hc hr⟩
theorem RedI.red (h:RedI n f0 f t s adds) (hn1:1<=n) (hd:dk f0 n<=10000) (hc:scanF f n=none):qH f n:=by
 refine(rb hn1).1 ⟨h.dfn.sym,fun k hk=>?_,?_,Ab hc⟩
 ·rw[oH h.dfn.pos k hk];exact h.dfn.pos k hk
 ·have:=oH h.dfn.pos (n-1) (by omega)
  rw[show n-1+1=n by omega]at this
  rw[this,h.det];exact hd
theorem RedI.start (hn1:1<=n) (hn:n<=8) (hs:SymF f n) (hp:yK f n) (hb: ∀a b,(f a b).natAbs<=9) (ht: ∀a b,a<n->b<n->Sz (t a b) 1):RedI n f f t 0 0:=by
 have hpos: ∀k,k<n->0<dk f (k+1):=fun k hk=>(we hp k hk).1
 have hdef:Def f n bB:=⟨hs,hpos,fun k hk=>J7 hb (by omega)⟩
 refine⟨hdef,.inl fun a ha=>Nat.le_trans (hb a a) ?_,rfl,?_,by omega,fun a b ha hb=>(ht a b ha hb).mono (by omega)⟩
 ·unfold cN
  exact Nat.le_trans (show 9<=bB+bB*bB by decide) (Nat.le_mul_of_pos_right _ (Nat.pow_pos (by omega)))
 ·simp only[Nat.pow_zero,Nat.one_mul]
  exact Nat.le_trans (Fg hdef n (Nat.le_refl _)) (Nat.pow_le_pow_right (by decide) hn)
end
end
theorem xx {w w':World} (h:Ext w w'):Keep (fun _=>False) w w':=⟨h.os,h.tape,h.output,h.size,fun k hk _=>h.block k hk⟩
theorem EA {w w':World} (h:Keep (fun _=>False) w w'):Ext w w':=⟨h.os,h.tape,h.output,h.size,fun k hk=>h.block k hk (fun h=>h)⟩
theorem A2 {w w':World} {X:Nat->Prop} (h:Ext w w') (hX: ∀b,X b->b<w.heap.size):i7 w (fun _=>False) X (famH 0 []) (fun _ _=>none) w':=by
 have e: ∀a,famH 0 [] a=[]:=fun a=>by unfold famH;split<;>rfl
 refine⟨xx h,fun a r o ho=>?_,fun a r a' r' o o' b c c' ho=>?_,fun a r o b c ho=>?_,fun b hb=>Nat.lt_of_lt_of_le (hX b hb) h.size,fun a r o ho=>?_⟩<;>(rw[e]at ho;simp at ho)
theorem jb {P:Program} {f:FuncId} {args:List TV} {r:TV} (hc:callable P f=true) (h: ∀(X:Nat->Prop) (w:World) (vs:Array Value),(∀b,X b->b<w.heap.size)->vs.size=args.length->
  (∀(j:Nat) t,args[j]?=some t-> ∃v:Value,vs[j]?=some v/\t.rel (fun _ _=>none) (fun _=>[]) X w v)->Calls P f vs w fun e w'=> ∃v,e= .returned v/\(∀ρ H Y,r.rel ρ H Y w' v)/\Ext w w'):CallC P f args ⟨[],r⟩:=
 ⟨hc,fun X w vs hX hvs ha=>(h X w vs hX hvs ha).mono fun e w' ⟨v,h1,h2,h3⟩=>⟨v,h1,fun _ _=>none,A2 h3 hX,h2 _ _ _⟩⟩
theorem CallC.calls {P:Program} {f:FuncId} {args:List TV} {r:TV} (h:CallC P f args ⟨[],r⟩) {w:World} {vs:Array Value} (hvs:vs.size=args.length)
  (ha: ∀(j:Nat) t,args[j]?=some t-> ∃v:Value,vs[j]?=some v/\t.rel (fun _ _=>none) (fun _=>[]) (fun _=>False) w v):Calls P f vs w fun e w'=> ∃v,e= .returned v/\(∃ρ H X,r.rel ρ H X w' v)/\Ext w w':=
 (h.2 (fun _=>False) w vs (fun b h=>h.elim) hvs ha).mono fun e w' ⟨v,h1,ρ,h2,h3⟩=>⟨v,h1,⟨_,_,_,h3⟩,EA h2.keep⟩
theorem Bx {ρ:gm} {H:OH} {X:Nat->Prop} {w:World} (v:Int) (b:Bool):(JN v b).rel ρ H X w (.tuple #[.int .i64 v,.bool b]):=by
 refine⟨#[.int .i64 v,.bool b],rfl,rfl,fun j c cs hj=>?_⟩
 match j,hj with
 |0,hj=>
  simp at hj
  obtain⟨rfl,rfl⟩:=hj
  exact⟨_,rfl,.inr ⟨rfl,_,rfl,dy.raw _ rfl⟩⟩
 |1,hj=>
  simp at hj
  obtain⟨rfl,rfl⟩:=hj
  exact⟨_,rfl,.inr ⟨rfl,_,rfl,dy.raw _ rfl⟩⟩
 |j+2,hj=>simp at hj
theorem o9 {ρ:gm} {H:OH} {X:Nat->Prop} {w:World} (b:Bool):(TV.raw (.bool b)).rel ρ H X w (.bool b):=dy.raw _ rfl
theorem lj {X:Nat->Prop} {w:World} {u v:Value} (h:dy X w (.raw u) v):v=u:=by cases h;rfl
theorem pa {X:Nat->Prop} {w:World} {l:List Int} {v:Value} (h:dy X w (.sl (ls fI l)) v): ∃A c,v= .slice A l.length c/\l.length<=c/\l.length<=9223372036854775807/\RdI .i64 w A l:=by
 generalize hx:PV.sl (ls fI l)=x at h
 cases h with
 |raw v h=>cases hx
 |ptr b off cs f hX hb hc hr=>cases hx
 |nil a c=>
  injection hx with hx
  have hl:l=[]:=by simpa[ls] using hx
  subst hl
  exact⟨a,c,rfl,Nat.zero_le _,by simp,RdI.nil _ _ _⟩
 |sl b off es cap xs f hX hb hes hcap hm hc hr=>
  injection hx with hx
  subst hx
  rw[aR]at hcap hm
  refine⟨some ⟨b,off,none⟩,cap,by rw[aR],hcap,hm,fun hne=>⟨b,off,rfl,fun i x hx=>?_⟩⟩
  rw[List.getElem?_map]at hx
  obtain⟨z,hz,rfl⟩:=Option.map_eq_some_iff.1 hx
  have h1:(ls fI l)[i]?=some (fI z):=by rw[bG,hz];rfl
  have he:es=1:=by rw[<- hes _ (List.mem_of_getElem? h1)];rfl
  subst he
  have h2:=hc i _ 0 _ h1 rfl
  have h3:=lj (hr i _ 0 _ h1 rfl)
  rw[h3,Nat.mul_one,Nat.add_zero]at h2
  exact h2
theorem re {X:Nat->Prop} {w:World} {M:List (List Int)} {v:Value} (h:dy X w (.sl (ls (fR fI) M)) v): ∃A c,v= .slice A M.length c/\M.length<=c/\M.length<=9223372036854775807/\jC .i64 w A M:=by
 generalize hx:PV.sl (ls (fR fI) M)=x at h
 cases h with
 |raw v h=>cases hx
 |ptr b off cs f hX hb hc hr=>cases hx
 |nil a c=>
  injection hx with hx
  have hl:M=[]:=by simpa[ls] using hx
  subst hl
  exact⟨a,c,rfl,Nat.zero_le _,by simp,jC.nil _ _ _⟩
 |sl b off es cap xs f hX hb hes hcap hm hc hr=>
  injection hx with hx
  subst hx
  rw[aR]at hcap hm
  refine⟨some ⟨b,off,none⟩,cap,by rw[aR],hcap,hm,fun hne=>⟨b,off,rfl,fun i r hi=>?_⟩⟩
  have h1:(ls (fR fI) M)[i]?=some (fR fI r):=by rw[bG,hi];rfl
  have he:es=1:=by rw[<- hes _ (List.mem_of_getElem? h1)];rfl
  subst he
  have h2:=hc i _ 0 _ h1 rfl
  have h3:=pa (hr i _ 0 _ h1 rfl)
  rw[Nat.mul_one,Nat.add_zero]at h2
  exact⟨_,h2,h3⟩
theorem Hy {w:World} {l:List Int} {A:Option Addr} {c:Nat} (hl:l.length<=c) (hm:l.length<=9223372036854775807) (h:RdI .i64 w A l):dy (fun _=>False) w (.sl (ls fI l)) (.slice A l.length c):=by
 cases l with
 |nil=>exact dy.nil _ _
 |cons z0 l0=>
  obtain⟨b,off,rfl,hc⟩:=h (by simp)
  have h0:=hc 0 (.int .i64 z0) (by simp)
  have hb:b<w.heap.size:=kO h0
  have:=dy.sl (X:=fun _=>False) (w:=w) b off 1 c (ls fI (z0::l0)) (fun i _=> .int .i64 ((z0::l0).getD i 0)) (fun h=>h) hb (fun e he=>by
   obtain⟨z,_,rfl⟩:=List.mem_map.1 he
   rfl) (by rw[aR];exact hl) (by rw[aR];exact hm) (fun i e j x he hx=>by
   rw[bG]at he
   obtain⟨z,hz,rfl⟩:=Option.map_eq_some_iff.1 he
   cases j with
   |succ j=>simp[fI]at hx
   |zero=>
    have:=hc i (.int .i64 z) (by rw[List.getElem?_map,hz];rfl)
    simp only[Nat.mul_one,Nat.add_zero,List.getD_eq_getElem?_getD,hz,Option.getD_some]
    exact this) (fun i e j x he hx=>by
   rw[bG]at he
   obtain⟨z,hz,rfl⟩:=Option.map_eq_some_iff.1 he
   cases j with
   |succ j=>simp[fI]at hx
   |zero=>
    simp[fI]at hx
    subst hx
    simp only[List.getD_eq_getElem?_getD,hz,Option.getD_some]
    exact dy.raw _ rfl)
  rw[aR]at this
  exact this
theorem Bw {w:World} {M:List (List Int)} {A:Option Addr} {c:Nat} (hl:M.length<=c) (hm:M.length<=9223372036854775807) (h:jC .i64 w A M):dy (fun _=>False) w (.sl (ls (fR fI) M)) (.slice A M.length c):=by
 cases M with
 |nil=>exact dy.nil _ _
 |cons r0 M0=>
  obtain⟨b,off,rfl,hc⟩:=h (by simp)
  obtain⟨v0,h0,_⟩:=hc 0 r0 rfl
  have hb:b<w.heap.size:=kO h0
  have:=dy.sl (X:=fun _=>False) (w:=w) b off 1 c (ls (fR fI) (r0::M0)) (fun i _=>(w.cell? ⟨b,off+i,none⟩).getD undef) (fun h=>h) hb (fun e he=>by
   obtain⟨z,_,rfl⟩:=List.mem_map.1 he
   rfl) (by rw[aR];exact hl) (by rw[aR];exact hm) (fun i e j x he hx=>by
   rw[bG]at he
   obtain⟨r,hr,rfl⟩:=Option.map_eq_some_iff.1 he
   cases j with
   |succ j=>simp[fR]at hx
   |zero=>
    obtain⟨v,h1,h2⟩:=hc i r hr
    simp only[Nat.mul_one,Nat.add_zero,h1,Option.getD_some]) (fun i e j x he hx=>by
   rw[bG]at he
   obtain⟨r,hr,rfl⟩:=Option.map_eq_some_iff.1 he
   cases j with
   |succ j=>simp[fR]at hx
   |zero=>
    simp[fR]at hx
    subst hx
    obtain⟨v,h1,B,c',rfl,h3,h4,h5⟩:=hc i r hr
    simp only[h1,Option.getD_some]
    exact Hy h3 h4 h5)
  rw[aR]at this
  exact this
/-! The program's functions. -/
theorem qI {args:List TV} {vs:Array Value} {X:Nat->Prop} {w:World} (h: ∀(j:Nat) t,args[j]?=some t-> ∃v:Value,vs[j]?=some v/\t.rel (fun _ _=>none) (fun _=>[]) X w v) {j:Nat} {x:PV} (hj:args[j]?=some (.one (.p x))): ∃v:Value,vs[j]?=some v/\dy X w x v:=h j _ hj
end Go.Proofs.YtpgghglbpcabkaaGreat
