/-
  Part 23 of a proof (walks and plain facts).
-/
import Derived.Test.YtpgghglbpcabkaaGreatQ21
set_option linter.all false
set_option maxRecDepth 100000
set_option maxHeartbeats 64000000
namespace Go.Proofs.YtpgghglbpcabkaaGreat
open Go.RowKit
theorem Hb {n c i:Nat} (g:Nat->Nat->Int) (h:Nat->Int):((cd n c g).map lN).set i ⟨53,2,lc fZ (de c h)⟩=(cd n c (fun r=>if r=i then h else g r)).map lN:=by
 rw[<- vU,List.map_set];rfl
theorem C3 (f:Nat->Nat->Int) (i a b:Nat):(fun r=>if r=i then f i else part f i 0 r) a b=part f (i+1) 0 a b:=by
 by_cases e:a=i
 ·subst e;simp[part]
 ·by_cases h:a<i
  ·simp[part,e,h,show a<i+1 by omega]
  ·simp[part,e,h,show ¬a<i+1 by omega]
theorem sI (n:Nat) (f:Nat->Nat->Int) (hn1:1<=n) (hn:n<=16) (hf: ∀i j,i<n->j<n->Sz (f i j) 1024):
  CallC Tryz.prog 50 [ci (cd n n f)] ⟨[],tZ (detF n f)⟩:=by
 have hml:=bQ n n f
 refine ax Tryz.func50 rfl (by kernel_rfl) ?_;rw[Tryz.ntmps50]
 (refine aa [] fun K hK=>?_;simp(disch:=omega) only[kc,ab,ci,List.replicate,bu,aN,aC,bi,Value.oneCell',Nat.reduceAdd,bH];apply hK)
 (refine aa [] fun K hK=>?_;simp(disch:=omega) only[kc,ab,Nat.reduceAdd,aw,au,aZ,aR,hml];apply hK)
 (refine aa [] fun K hK=>?_;simp(disch:=omega) only[kc,ab,Nat.reduceAdd,bZ,aN,aC,aZ,kG,cw,pp,Int.natCast_nonneg,Value.oneCell',and_true,bH,aJ,Nat.reduceEqDiff];apply hK)
 (refine ae (aa [] fun K hK=>?_);simp(disch:=omega) only[kc,ab,Nat.reduceAdd,aw,au,aZ,aR,hml,ac,Value.oneCell'];apply hK)
 refine bD (G:=mz n) (fun g=>⟨[jk,jk,.one (.ptr 2 0 0 0),.raw (.int .i64 (n:Int)),.one (.sl 18 0 0 n),jk,jk,jk,jk,jk,jk,jk,jk,jk,jk,jk,jk,jk,jk,ci (cd n n f),.raw (.int .i64 (n:Int)),.raw (.int .i64 (g.i:Int)),jk,jk,jk,jk,jk,jk,jk,jk,jk,jk,jk,jk,jk,jk,jk,jk,jk,jk,jk,jk,jk,jk,jk,jk,jk,jk,jk,jk,jk,jk,jk,jk,jk,jk,jk,jk,jk,jk,jk,jk,jk,jk,jk,jk,jk,jk,jk,jk,jk,jk,jk,jk,jk,jk,jk,jk,jk,jk,jk,jk,jk,jk,jk,jk,jk,jk,jk,jk,jk,jk,jk,jk,jk,jk,jk,jk,jk,jk,jk,jk,jk,jk,jk,jk,jk,jk,jk,jk,jk,jk,jk,jk,jk,jk,jk,jk,jk,jk,jk,jk,jk,jk,jk,jk,jk,jk,jk,jk,jk,jk,jk,jk,jk,jk,jk,jk,jk,jk,jk,jk,jk,jk,jk,jk,jk,jk,jk],Hm [(2,qp),(18,yC 18 n n g.i (part f g.i 0))]⟩) (fun g=>n-g.i) ⟨0,by omega⟩ ?_ ?_
 ·refine(gL 18).trans (aj ⟨rfl,uh 18 n n _,trivial⟩ ?_)
  simp[b9,bo,bj]
 ·rintro⟨i,hi⟩
  simp only
  by_cases hm:i<n
  ·have hr:=cS n f hm
   have hg:=wP (d:=18) (c:=n) hm
   (refine aa [] fun K hK=>?_;simp(disch:=omega) only[kc,ab,ci,Hm,ak,ah,bA];apply hK)
   refine ae (af rfl (fun _=>aq ?_) (fun h=>by simp at h<;>omega))
   refine ae (aI ?_)
   (refine aa [] fun K hK=>?_;simp(disch:=omega) only[kc,ab,Nat.reduceAdd,ag,au,ao,aZ,bG,hr,fR,cw,aA,cu];apply hK)
   simp only[yC]
   (refine aa [] fun K hK=>?_;simp(disch:=omega) only[kc,ab,Nat.reduceAdd,bZ,aN,aC,bL,bi,aM,lC,Int.natCast_nonneg,Value.oneCell',and_true,bH,Nat.reduceEqDiff,cP,ag,au,ao,aZ,aJ,cw,az,df,bJ,hg,putCells,List.length_replicate,List.all_replicate,isPure,List.length_map,bQ,aS,aT,Nat.reduceBEq];apply hK)
   refine bT.weak ((gL 18).trans (aj (tm:=[jk,jk,.one (.ptr 2 0 0 0),.raw (.int .i64 (n:Int)),.one (.sl 18 0 0 n),.raw (.int .i64 (i:Int)),.one (.p (.sl (ls fZ (de n (f i))))),jk,jk,jk,jk,jk,jk,jk,jk,jk,jk,jk,jk,ci (cd n n f),.raw (.int .i64 (n:Int)),.raw (.int .i64 (i:Int)),jk,jk,jk,jk,jk,jk,jk,jk,jk,jk,jk,jk,jk,jk,jk,jk,jk,jk,jk,jk,jk,jk,jk,jk,jk,jk,jk,jk,jk,jk,jk,jk,jk,jk,jk,jk,jk,jk,jk,jk,jk,jk,jk,jk,jk,jk,jk,jk,jk,jk,jk,jk,jk,jk,jk,jk,jk,jk,jk,jk,jk,jk,jk,jk,jk,jk,jk,jk,jk,jk,jk,jk,jk,jk,jk,jk,jk,jk,jk,jk,jk,jk,jk,jk,jk,jk,jk,jk,jk,jk,jk,jk,jk,jk,jk,jk,jk,jk,jk,jk,jk,jk,jk,jk,jk,jk,jk,jk,jk,jk,jk,jk,jk,jk,jk,jk,jk,jk,jk,jk,jk,jk,jk,jk,jk,jk,jk]) (l:=[(2,qp),(18,yC 18 n n (i+1) (part f i 0))]) ⟨rfl,xk (part f i 0) hm (fun b _=>by simp[part]),trivial⟩ (by simp[b9,bo,bj]))) ?_
   have a1:=AC (d:=18) (n:=n) (c:=n) (show i<i+1 by omega)
   have a2:=AD (d:=18) (n:=n) (c:=n) (show i+1<=n by omega)
   have a3:=eY (n:=i+1) n (part f i 0) (show i<i+1 by omega)
   simp only[yC]
   refine BT 5 91 53 (.one (.p (.sl (ls fZ (de n (f i)))))) n 18 (i+1) ⟨53,2,lc fZ (de n (part f i 0 i))⟩ (lc fZ (de n (f i))) [] [] (by simp(disch:=omega) only[bL]) (by simp(disch:=omega) only[aM]) (by omega) (by simp[eJ,cq]) (by intro e he;obtain⟨z,_,rfl⟩:=List.mem_map.1 he;rfl) (by simp) (by decide) fun K hK=>?_
   simp(disch:=omega) only[kc,ab,Nat.reduceAdd,ci,Hm,ag,au,ao,aZ,Nat.reduceEqDiff,cw,bH,a1,aA,cu]
   apply hK
   clear hK K
   refine⟨⟨rfl,a3,by simp[newsOf,EK],by simp[eJ,cq]⟩,by simp,?_⟩
   intro K hK
   simp(disch:=omega) only[kc,Nat.reduceAdd,Cl,cwD,Nat.reduceEqDiff]
   apply hK
   clear hK K
   show bT _ _ _ _
   ((refine aU [] [] (by simp) fun K hK=>?_);simp(disch:=omega) only[kc,ab,ak,ac,Value.oneCell',ah,bC];apply hK)
   refine⟨⟨i+1,by omega⟩,by simp only;omega,aj ⟨rfl,?_,trivial⟩ ?_⟩
   ·show _::_=_::_
    rw[Hb,dt fun a b _ _=>C3 f i a b]
   ·simp[b9,bo,bj]
  ·have hin:i=n:=by omega
   subst i
   have hS:=xB 1 (by omega) (by omega)
   rw[xj]
   have e:gV 18 n n (part f n 0)=gV 18 n n f:=by
    show _::_=_::_
    rw[dt fun a b ha _=>ku f a b ha]
   rw[e]
   (refine aa [] fun K hK=>?_;simp(disch:=omega) only[kc,ab,ci,Hm,ak,ah,bf];apply hK)
   refine ae (af rfl (fun h=>by simp at h<;>omega) (fun _=>bv ?_))
   show bT _ _ _ _
   (refine aa [] fun K hK=>?_;simp(disch:=omega) only[kc,ab,ac,Value.oneCell'];apply hK)
   (refine aa [⟨0,_,_,_,hS⟩] fun K hK=>?_;simp(disch:=omega) only[kc,tZ,bf,ar.a,ab,Nat.reduceAdd,ai,aN,aC,List.find?_cons,aD,ac,Value.oneCell',aX,CallRes.plain,aF,aH,ap,noRefTV,am,aG,aE,bu,bi,bH,Nat.reduceEqDiff,cP,az,df,bJ,aM,aJ,cellsOf,Nat.le_refl,isPure,putCells,aS,aT];apply hK)
   (refine ae (aa [] fun K hK=>?_);simp(disch:=omega) only[kc,ab,ac,Value.oneCell'];apply hK)
   refine bD (G:=KP n f) (fun g=>⟨[jk,jk,.one (.ptr 2 0 0 0),.raw (.int .i64 (n:Int)),.one (.sl 18 0 0 n),jk,jk,.raw (.bool g.neg),.one (.ptr 8 0 0 0),jk,jk,jk,jk,jk,jk,jk,jk,jk,jk,jk,jk,jk,jk,jk,jk,jk,jk,jk,jk,jk,jk,jk,jk,jk,jk,jk,jk,jk,jk,.raw (.int .i64 (n:Int)),.raw (.int .i64 (g.k:Int)),jk,jk,jk,jk,jk,jk,jk,jk,jk,jk,jk,jk,jk,jk,jk,jk,jk,jk,jk,jk,jk,jk,jk,jk,jk,jk,jk,jk,jk,jk,jk,jk,jk,jk,jk,jk,jk,jk,jk,jk,jk,jk,jk,jk,jk,jk,jk,jk,jk,jk,jk,jk,jk,jk,jk,jk,jk,jk,jk,jk,jk,jk,jk,jk,jk,jk,jk,jk,jk,jk,jk,jk,jk,jk,jk,jk,jk,jk,jk,jk,jk,jk,jk,jk,jk,jk,jk,jk,jk,jk,jk,jk,jk,jk,jk,jk,jk,jk,jk,jk,jk,jk,jk,jk,jk,jk,jk,jk],Hm [(2,qp),(8,vr g.last),(18,gV 18 n n g.g)]⟩) (fun g=>n-g.k) ⟨0,f,1,false,1024,by omega,rfl,by omega,by omega,hf,mr (by omega)⟩ ?_ ?_
   ·refine aj ⟨rfl,rfl,rfl,trivial⟩ ?_
    simp[b9,bo,bj]
   ·rintro⟨k,g,last,neg,b,hk,hv,hl,hb,sgz,slz⟩
    simp only
    by_cases hm:k<n
    ·have h2k:=kw (k:=k) (by omega)
     have hbb:b<=67174400:=by omega
     have hvk:detG n k g last neg=if piv g n k k=n then 0 else detG n (k+1) (EY k last (Gd n k g)) (Gd n k g k k) (neg !=decide (k<piv g n k k)):=by rw[detG,if_pos hm]
     (refine aa [] fun K hK=>?_;simp(disch:=omega) only[kc,ab,Hm,ak,ah,bA];apply hK)
     refine ae (af rfl (fun _=>aq ?_) (fun h=>by simp at h<;>omega))
     refine ae (aI ?_)
     (refine aa [] fun K hK=>?_;simp(disch:=omega) only[kc,ab];apply hK)
     (refine aa [] fun K hK=>?_;simp(disch:=omega) only[kc,ab];apply hK)
     refine ae (iV (S:=⟨[jk,jk,.one (.ptr 2 0 0 0),.raw (.int .i64 (n:Int)),.one (.sl 18 0 0 n),jk,jk,.raw (.bool neg),.one (.ptr 8 0 0 0),.raw (.int .i64 (k:Int)),.raw (.int .i64 ((piv g n k k:Nat):Int)),jk,jk,jk,jk,jk,jk,jk,jk,jk,jk,jk,jk,jk,jk,jk,jk,jk,jk,jk,jk,jk,jk,jk,jk,jk,jk,jk,jk,.raw (.int .i64 (n:Int)),.raw (.int .i64 (k:Int)),jk,jk,jk,jk,jk,jk,jk,jk,jk,jk,jk,jk,jk,jk,jk,jk,jk,jk,jk,jk,jk,jk,jk,jk,jk,jk,jk,jk,jk,jk,jk,jk,jk,jk,jk,jk,jk,jk,jk,jk,jk,jk,jk,jk,jk,jk,jk,jk,jk,jk,jk,jk,jk,jk,jk,jk,jk,jk,jk,jk,jk,jk,jk,jk,jk,jk,jk,jk,jk,jk,jk,jk,jk,jk,jk,jk,jk,jk,jk,jk,jk,jk,jk,jk,jk,jk,jk,jk,jk,jk,jk,jk,jk,jk,jk,jk,jk,jk,jk,jk,jk,jk,jk,jk,jk,jk,jk,jk],Hm [(2,qp),(8,vr last),(18,gV 18 n n g)]⟩) ?_ ?_)
     ·refine bD (G:=KQ n k g) (fun q=>⟨[jk,jk,.one (.ptr 2 0 0 0),.raw (.int .i64 (n:Int)),.one (.sl 18 0 0 n),jk,jk,.raw (.bool neg),.one (.ptr 8 0 0 0),.raw (.int .i64 (k:Int)),.raw (.int .i64 (q.p:Int)),jk,jk,jk,jk,jk,jk,jk,jk,jk,jk,jk,jk,jk,jk,jk,jk,jk,jk,jk,jk,jk,jk,jk,jk,jk,jk,jk,jk,.raw (.int .i64 (n:Int)),.raw (.int .i64 (k:Int)),jk,jk,jk,jk,jk,jk,jk,jk,jk,jk,jk,jk,jk,jk,jk,jk,jk,jk,jk,jk,jk,jk,jk,jk,jk,jk,jk,jk,jk,jk,jk,jk,jk,jk,jk,jk,jk,jk,jk,jk,jk,jk,jk,jk,jk,jk,jk,jk,jk,jk,jk,jk,jk,jk,jk,jk,jk,jk,jk,jk,jk,jk,jk,jk,jk,jk,jk,jk,jk,jk,jk,jk,jk,jk,jk,jk,jk,jk,jk,jk,jk,jk,jk,jk,jk,jk,jk,jk,jk,jk,jk,jk,jk,jk,jk,jk,jk,jk,jk,jk,jk,jk,jk,jk,jk,jk,jk,jk],Hm [(2,qp),(8,vr last),(18,gV 18 n n g)]⟩) (fun q=>n-q.p) ⟨k,by omega,by omega,rfl⟩ ?_ ?_
      ·refine aj ⟨rfl,rfl,rfl,trivial⟩ ?_
       simp[b9,bo,bj]
      ·rintro⟨p,hkp,hp,hpv⟩
       simp only
       by_cases hpn:p<n
       ·have g1:=cX (n:=n) (i:=p) 18 n hpn
        have g2:=eY n g hpn
        have g3:=bK (g p) hm
        have hSg:=GW (g p k) ((sgz p k hpn hm).mono (by omega))
        by_cases h0:g p k=0
        ·rw[h0]at hSg g3
         (refine ae (aa [⟨11,_,_,_,hSg⟩] fun K hK=>?_);simp(disch:=omega) only[kc,tZ,bf,wz,ar.a,ab,Nat.reduceAdd,Hm,ak,ah,bA,aB,ag,au,ao,aZ,Nat.reduceEqDiff,bH,cP,cw,g1,aA,cu,bL,g2,aM,cb,fZ,g3,aW,Nat.le_refl,ai,aN,aC,List.find?_cons,aD,aX,CallRes.plain,aF,aH,ap,isPure,noRefTV,am,aG,aE,ac,Value.oneCell',aQ];apply hK)
         refine af rfl (fun _=>aq ?_) (fun h=>by simp at h)
         refine aI ?_
         ((refine aU [] [] (by simp) fun K hK=>?_);simp(disch:=omega) only[kc,ab,Nat.reduceAdd,ak,ac,Value.oneCell',ah,bC];apply hK)
         refine⟨⟨p+1,by omega,by omega,?_⟩,by simp only;omega,aj ⟨rfl,rfl,rfl,trivial⟩ ?_⟩
         ·rw[<- hpv,pS hpn h0]
         ·simp[b9,bo,bj]
        ·have hs0:=FD h0
         (refine ae (aa [⟨11,_,_,_,hSg⟩] fun K hK=>?_);simp(disch:=omega) only[kc,tZ,ar.a,ab,Nat.reduceAdd,Hm,ak,ah,bA,aB,ag,au,ao,aZ,Nat.reduceEqDiff,bH,cP,cw,g1,aA,cu,bL,g2,aM,cb,fZ,g3,aW,Nat.le_refl,ai,aN,aC,List.find?_cons,aD,aX,CallRes.plain,aF,aH,ap,isPure,noRefTV,am,aG,aE,ac,Value.oneCell',bf,aQ];apply hK)
         refine af rfl (fun h=>by simp at h<;>omega) (fun _=>bv ?_)
         show dG _ _
         have hpe:piv g n k k=p:=by rw[<- hpv,pR hpn h0]
         refine aj ⟨rfl,rfl,rfl,trivial⟩ ?_
         simp[b9,bo,bj,hpe]
       ·have hpe:piv g n k k=p:=by rw[<- hpv,mS hpn];omega
        (refine ae (aa [] fun K hK=>?_);simp(disch:=omega) only[kc,ab,Nat.reduceAdd,Hm,ak,ah,bf,aB,ag,au,Option.map_none,ai,aN,aC,List.find?_nil,aD,ac,Value.oneCell',aQ];apply hK)
        refine af rfl (fun h=>by simp at h) (fun _=>bv ?_)
        show dG _ _
        refine aj ⟨rfl,rfl,rfl,trivial⟩ ?_
        simp[b9,bo,bj,hpe]
     ·have hpl:=wc (f:=g) (n:=n) (k:=k) (n-k) k rfl
      have hpn':=zU (f:=g) (n:=n) (k:=k) (n-k) k rfl
      generalize hpp:piv g n k k=p at*
      by_cases hpn:p=n
      ·rw[if_pos hpn]at hvk
       (refine ae (aa [] fun K hK=>?_);simp(disch:=omega) only[kc,ab,Nat.reduceAdd,Hm,ak,ah,bA];apply hK)
       refine af rfl (fun _=>?_) (fun h=>by simp at h<;>omega)
       (refine aa [] fun K hK=>?_;simp(disch:=omega) only[kc,ab,eC,au,bi,fO,Value.oneCell',fm,az,df,bJ,aM,Nat.reduceEqDiff,cP,cellsOf,Nat.reduceAdd,Nat.le_refl,isPure,bH,putCells,aS,aT];apply hK)
       refine bT.weak (gL 2) ?_
       refine ay ⟨.inr rfl,aO rfl ?_ rfl⟩
       rw[<- hv,hvk]
       simp(disch:=omega) only[kc,bE,Tryz.results50,aP,zH,aJ,Nat.reduceEqDiff,cP,bH,zO,yA,yE,aA,aM,aW,Nat.reduceAdd,Nat.le_refl,tZ,bf]
       simp[dx,ls]
      ·rw[if_neg hpn]at hvk
       obtain⟨hkp,hpk0⟩:=hpn' (by omega)
       (refine ae (aa [] fun K hK=>?_);simp(disch:=omega) only[kc,ab,Nat.reduceAdd,Hm,ak,ah,bf];apply hK)
       refine af rfl (fun h=>by simp at h<;>omega) (fun _=>aq ?_)
       show bT _ _ _ _
       (refine ae (aa [] fun K hK=>?_);simp(disch:=omega) only[kc,ab,Nat.reduceAdd,ak,ah];apply hK)
       refine iV (S:=⟨[jk,jk,.one (.ptr 2 0 0 0),.raw (.int .i64 (n:Int)),.one (.sl 18 0 0 n),jk,jk,.raw (.bool (neg !=decide (k<p))),.one (.ptr 8 0 0 0),.raw (.int .i64 (k:Int)),jk,jk,jk,jk,jk,jk,jk,jk,jk,jk,jk,jk,jk,jk,jk,jk,jk,jk,jk,jk,jk,jk,jk,jk,jk,jk,jk,jk,jk,.raw (.int .i64 (n:Int)),.raw (.int .i64 (k:Int)),jk,jk,jk,jk,jk,jk,jk,jk,jk,jk,jk,jk,jk,jk,jk,jk,jk,jk,jk,jk,jk,jk,jk,jk,jk,jk,jk,jk,jk,jk,jk,jk,jk,jk,jk,jk,jk,jk,jk,jk,jk,jk,jk,jk,jk,jk,jk,jk,jk,jk,jk,jk,jk,jk,jk,jk,jk,jk,jk,jk,jk,jk,jk,jk,jk,jk,jk,jk,jk,jk,jk,jk,jk,jk,jk,jk,jk,jk,jk,jk,jk,jk,jk,jk,jk,jk,jk,jk,jk,jk,jk,jk,jk,jk,jk,jk,jk,jk,jk,jk,jk,jk,jk,jk,jk,jk,jk,jk],Hm [(2,qp),(8,vr last),(18,gV 18 n n (swp p k g))]⟩) ?_ ?_
       ·by_cases hlt:k<p
        ·have g1:=cX (n:=n) (i:=p) 18 n (by omega)
         have g2:=cX (n:=n) (i:=k) 18 n (by omega)
         refine af rfl (fun _=>?_) (fun h=>by simp at h<;>omega)
         have g4:((gY 18 (List.replicate n n)).set k [.sl 18 (p+1) 0 n])[p]?=some [.sl 18 (p+1) 0 n]:=by
          rw[List.getElem?_set_ne (by omega),g1]
         have hsw:=vX (d:=18) g (by omega:p<n) hm (by omega)
         rw[List.set_comm _ _ (by omega:p≠k)]at hsw
         (refine bS bY [] [] (by kernel_rfl) (by simp) fun K hK=>?_;simp(disch:=omega) only[kc,ab,Nat.reduceAdd,bf,Bool.not_false,ag,au,ao,aZ,Nat.reduceEqDiff,cP,cw,bH,g1,aA,cu,g2,az,df,bJ,putCells,aS,aT,aJ,g4,reduceCtorEq,false_and,List.length_map];apply hK)
         ((refine aU [] [] (by simp) fun K hK=>?_);simp(disch:=omega) only[kc,ab,Nat.reduceAdd,bW,ak,dc];apply hK)
         refine(vh 18 (p+1) (k+1) (gV 18 n n (swp p k g)) hsw).trans (aj ⟨rfl,rfl,rfl,trivial⟩ ?_)
         simp[b9,bo,bj,FN,mZ,qO,sw,hlt]
        ·have hpk:p=k:=by omega
         subst hpk
         refine af rfl (fun h=>by simp at h<;>omega) (fun _=>aq ?_)
         show dG _ _
         rw[po]
         refine aj ⟨rfl,rfl,rfl,trivial⟩ ?_
         simp[b9,bo,bj]
       ·rw[Gd,hpp]at hvk
        have hkk:swp p k g k k≠0:=by
         unfold swp
         by_cases h:k=p
         ·subst h;rw[if_pos rfl];exact hpk0
         ·rw[if_neg h,if_pos rfl];exact hpk0
        have hsz: ∀i j,i<n->j<n->Sz (swp p k g i j) b:=fun i j hi hj=>by
         unfold swp
         split
         ·exact sgz k j hm hj
         ·split
          ·exact sgz p j (by omega) hj
          ·exact sgz i j hi hj
        generalize swp p k g=g' at*
        generalize(neg !=decide (k<p))=neg' at*
        have b2:=cX (n:=n) (i:=k) 18 n hm
        have b4:=eY n g' hm
        have b5:=bK (g' k) hm
        (refine aa [] fun K hK=>?_;simp(disch:=omega) only[kc,ab,Nat.reduceAdd,Hm,ag,au,ao,aZ,Nat.reduceEqDiff,cP,cw,bH,b2,aA,cu,bL,b4,aM,cb,fZ,b5,aW,Nat.le_refl,bu,aN,aC,bi,Value.oneCell',az,df,bJ,aJ,cellsOf,isPure,putCells,aS,aT];apply hK)
        (refine ae (aa [] fun K hK=>?_);simp(disch:=omega) only[kc,ab,Nat.reduceAdd,ak,ac,Value.oneCell',ah,bC];apply hK)
        refine bD (G:=Ks n k) (fun q=>⟨[jk,jk,.one (.ptr 2 0 0 0),.raw (.int .i64 (n:Int)),.one (.sl 18 0 0 n),jk,jk,.raw (.bool neg'),.one (.ptr 8 0 0 0),.raw (.int .i64 (k:Int)),jk,.one (.ptr 11 0 0 0),.raw (.int .i64 (q.i:Int)),jk,jk,jk,jk,jk,jk,jk,jk,jk,jk,jk,jk,jk,jk,jk,jk,jk,jk,jk,jk,jk,jk,jk,jk,jk,jk,.raw (.int .i64 (n:Int)),.raw (.int .i64 (k:Int)),jk,jk,jk,jk,jk,jk,jk,jk,jk,jk,jk,jk,jk,jk,jk,jk,jk,jk,jk,jk,jk,jk,jk,jk,jk,jk,jk,jk,jk,jk,jk,jk,jk,jk,jk,jk,jk,jk,jk,jk,jk,jk,jk,jk,jk,jk,jk,jk,jk,jk,jk,jk,jk,jk,jk,jk,jk,jk,jk,jk,jk,jk,jk,jk,jk,jk,jk,jk,jk,jk,jk,jk,jk,jk,jk,jk,jk,jk,jk,jk,jk,jk,jk,jk,jk,jk,jk,jk,jk,jk,jk,jk,jk,jk,jk,jk,jk,jk,jk,jk,jk,jk,jk,jk,jk,jk,jk,jk],Hm [(2,qp),(8,vr last),(11,vr (g' k k)),(18,gV 18 n n (eO k last g' q.i (k+1)))]⟩) (fun q=>n-q.i) ⟨k+1,by omega,by omega⟩ ?_ ?_
        ·rw[Bm]
         refine aj ⟨rfl,rfl,rfl,rfl,trivial⟩ ?_
         simp[b9,bo,bj]
        ·rintro⟨i,hki,hin⟩
         simp only
         by_cases hi:i<n
         ·(refine ae (aa [] fun K hK=>?_);simp(disch:=omega) only[kc,ab,Nat.reduceAdd,Hm,ak,ah,bA];apply hK)
          refine af rfl (fun _=>aq ?_) (fun h=>by simp at h<;>omega)
          refine ae (aI ?_)
          (refine aa [] fun K hK=>?_;simp(disch:=omega) only[kc,ab,Nat.reduceAdd,ak,ac,Value.oneCell',ah,bC];apply hK)
          refine bD (G:=Ks n k) (fun q=>⟨[jk,jk,.one (.ptr 2 0 0 0),.raw (.int .i64 (n:Int)),.one (.sl 18 0 0 n),jk,jk,.raw (.bool neg'),.one (.ptr 8 0 0 0),.raw (.int .i64 (k:Int)),jk,.one (.ptr 11 0 0 0),.raw (.int .i64 (i:Int)),.raw (.int .i64 (q.i:Int)),jk,jk,jk,jk,jk,jk,jk,jk,jk,jk,jk,jk,jk,jk,jk,jk,jk,jk,jk,jk,jk,jk,jk,jk,jk,.raw (.int .i64 (n:Int)),.raw (.int .i64 (k:Int)),jk,jk,jk,jk,jk,jk,jk,jk,jk,jk,jk,jk,jk,jk,jk,jk,jk,jk,jk,jk,jk,jk,jk,jk,jk,jk,jk,jk,jk,jk,jk,jk,jk,jk,jk,jk,jk,jk,jk,jk,jk,jk,jk,jk,jk,jk,jk,jk,jk,jk,jk,jk,jk,jk,jk,jk,jk,jk,jk,jk,jk,jk,jk,jk,jk,jk,jk,jk,jk,jk,jk,jk,jk,jk,jk,jk,jk,jk,jk,jk,jk,jk,jk,jk,jk,jk,jk,jk,jk,jk,jk,jk,jk,jk,jk,jk,jk,jk,jk,jk,jk,jk,jk,jk,jk,jk,jk,jk],Hm [(2,qp),(8,vr last),(11,vr (g' k k)),(18,gV 18 n n (eO k last g' i q.i))]⟩) (fun q=>n-q.i) ⟨k+1,by omega,by omega⟩ ?_ ?_
          ·refine aj ⟨rfl,rfl,rfl,rfl,trivial⟩ ?_
           simp[b9,bo,bj]
          ·rintro⟨j,hkj,hjn⟩
           simp only
           by_cases hj:j<n
           ·have a1:=cX (n:=n) (i:=i) 18 n hi
            have a2:=cX (n:=n) (i:=k) 18 n hm
            have a3:=eY n (eO k last g' i j) hi
            have a4:=eY n (eO k last g' i j) hm
            have a5:(de n (eO k last g' i j k))[k]?=some (g' k k):=by rw[bK _ hm,iC _ _ (by omega)]
            have a6:(de n (eO k last g' i j i))[j]?=some (g' i j):=by rw[bK _ hj,iC _ _ (by omega)]
            have a7:(de n (eO k last g' i j i))[k]?=some (g' i k):=by rw[bK _ hm,iC _ _ (by omega)]
            have a8:(de n (eO k last g' i j k))[j]?=some (g' k j):=by rw[bK _ hj,iC _ _ (by omega)]
            have z1:=hsz k k hm hm
            have z2:=hsz i j hi hj
            have z3:=hsz i k hi hm
            have z4:=hsz k j hm hj
            have c1:=Eu (g' k k) (g' i j) (z1.mono (by omega)) (z2.mono (by omega))
            have c2:=Eu (g' i k) (g' k j) (z3.mono (by omega)) (z4.mono (by omega))
            have c3:=Jq (g' k k*g' i j) (g' i k*g' k j) ((z1.mul z2).mono (by omega)) ((z3.mul z4).mono (by omega))
            have c4:=CC (g' k k*g' i j-g' i k*g' k j) last hl (((z1.mul z2).sub (z3.mul z4)).mono (by omega)) (slz.mono (by omega))
            (refine ae (aa [] fun K hK=>?_);simp(disch:=omega) only[kc,ab,Nat.reduceAdd,Hm,ak,ah,bA];apply hK)
            refine af rfl (fun _=>aq ?_) (fun h=>by simp at h<;>omega)
            refine ae (aI ?_)
            (refine bS bY [⟨8,_,_,_,c1⟩,⟨23,_,_,_,c2⟩,⟨24,_,_,_,c3⟩] [] (by kernel_rfl) (by simp) fun K hK=>?_;simp(disch:=omega) only[kc,tZ,ar.a,ab,Nat.reduceAdd,au,Nat.reduceEqDiff,cP,aA,aM,aW,Nat.le_refl,ag,ao,aZ,cw,bH,a1,cu,bL,a3,cb,fZ,a6,ai,aN,aC,List.find?_cons,aD,aX,CallRes.plain,aF,aH,ap,isPure,noRefTV,am,aG,aE,a7,a2,a4,a8,Nat.reduceBEq,bu,bi,Value.oneCell',az,df,bJ,aJ,cellsOf,putCells,aS,aT];apply hK)
            ((refine dW bY [⟨7,_,_,_,c4⟩] [] (by kernel_rfl) (by simp) fun K hK=>?_);simp(disch:=omega) only[kc,tZ,cZ,ar.a,ab,Nat.reduceAdd,ag,au,ao,aZ,aJ,Nat.reduceEqDiff,cP,cw,bH,a1,aA,cu,aM,aW,Nat.le_refl,ai,aN,aC,List.find?_cons,aD,aX,CallRes.plain,aF,aH,ap,isPure,noRefTV,am,aG,aE,aV,ak,bL,a3,az,df,bJ,cb,fZ,a6,cellsOf,putCells,jO,aS,aT];apply hK)
            show bT _ _ _ _
            ((refine aU [] [] (by simp) fun K hK=>?_);simp(disch:=omega) only[kc,ab,Nat.reduceAdd,ak,ac,Value.oneCell',ah,bC];apply hK)
            refine⟨⟨j+1,by omega,by omega⟩,by simp only;omega,aj ⟨rfl,rfl,rfl,?_,trivial⟩ ?_⟩
            ·show _::_=_::_
             rw[dt fun a b _ _=>Bl last g' hki hkj a b]
            ·simp[b9,bo,bj]
           ·have hjn':j=n:=by omega
            subst hjn'
            (refine ae (aa [] fun K hK=>?_);simp(disch:=omega) only[kc,ab,Nat.reduceAdd,Hm,ak,ah,bf];apply hK)
            refine af rfl (fun h=>by simp at h<;>omega) (fun _=>bv ?_)
            show bT _ _ _ _
            ((refine aU [] [] (by simp) fun K hK=>?_);simp(disch:=omega) only[kc,ab,Nat.reduceAdd,ak,ac,Value.oneCell',ah,bC];apply hK)
            refine⟨⟨i+1,by omega,by omega⟩,by simp only;omega,aj ⟨rfl,rfl,rfl,?_,trivial⟩ ?_⟩
            ·show _::_=_::_
             rw[dt fun a b _ hb=>EX last g' i a b hb]
            ·simp[b9,bo,bj]
         ·have hin':i=n:=by omega
          subst hin'
          have a2:=cX (n:=i) (i:=k) 18 i hm
          have a4:=eY i (eO k last g' i (k+1)) hm
          have a5:(de i (eO k last g' i (k+1) k))[k]?=some (g' k k):=by rw[bK _ hm,iC _ _ (by omega)]
          (refine ae (aa [] fun K hK=>?_);simp(disch:=omega) only[kc,ab,Nat.reduceAdd,Hm,ak,ah,bf];apply hK)
          refine af rfl (fun h=>by simp at h<;>omega) (fun _=>bv ?_)
          show bT _ _ _ _
          ((refine aU [] [] (by simp) fun K hK=>?_);simp(disch:=omega) only[kc,ab,au,Nat.reduceEqDiff,cP,aA,aM,aW,Nat.reduceAdd,Nat.le_refl,az,df,bJ,cellsOf,isPure,bH,putCells,aS,aT];apply hK)
          show bT _ _ _ _
          ((refine aU [] [] (by simp) fun K hK=>?_);simp(disch:=omega) only[kc,ab,ak,ac,Value.oneCell',ah,bC];apply hK)
          refine⟨⟨k+1,EY k last g',g' k k,neg',2*b+1,by omega,by rw[<- hvk,hv],hkk,by rw[Nat.pow_succ];omega,fun x y hx hy=>?_,(hsz k k hm hm).mono (by omega)⟩,by simp only;omega,aj ⟨rfl,rfl,?_,trivial⟩ ?_⟩
          ·unfold EY
           split
           ·exact((((hsz k k hm hm).mul (hsz x y hx hy)).sub ((hsz x k hx hm).mul (hsz k y hm hy))).ediv last).mono (by omega)
           ·exact(hsz x y hx hy).mono (by omega)
          ·show _::_=_::_
           rw[dt fun a b ha _=>EW last g' a b ha]
          ·simp[b9,bo,bj]
    ·have hkn:k=n:=by omega
     subst hkn
     rw[detG,if_neg hm]at hv
     have h2k:=kw (k:=k) hn
     have hN:=Jp last (slz.mono (by omega))
     have hNo:=vP last (slz.mono (by omega))
     (refine aa [] fun K hK=>?_;simp(disch:=omega) only[kc,ab,Hm,ak,ah,bf];apply hK)
     refine ae (af rfl (fun h=>by simp at h<;>omega) (fun _=>bv ?_))
     show bT _ _ _ _
     (refine ae (aa [] fun K hK=>?_);simp(disch:=omega) only[kc,ab];apply hK)
     cases neg with
     |true=>
      rw[if_pos rfl]at hv
      refine af rfl (fun _=>?_) (fun h=>by simp at h)
      (refine aa [⟨1,_,_,_,hN⟩] fun K hK=>?_;simp(disch:=omega) only[kc,tZ,ar.a,ab,Nat.reduceAdd,au,Nat.reduceEqDiff,cP,aA,aM,aW,Nat.le_refl,ai,aN,aC,List.find?_cons,aD,aX,CallRes.plain,aF,aH,ap,isPure,noRefTV,am,aG,aE,az,df,bJ,cellsOf,bH,putCells,aS,aT];apply hK)
      rw[<- hv]
      (refine ay ⟨.inr rfl,aO rfl ?_ rfl⟩;simp(disch:=omega) only[kc,bE,Tryz.results50,aP,aJ,Nat.reduceEqDiff,cP,aA,aM,aW,Nat.reduceAdd,Nat.le_refl,tZ])
     |false=>
      rw[if_neg (by simp)]at hv
      refine af rfl (fun h=>by simp at h) (fun _=>aq ?_)
      show bT _ _ _ _
      (refine aa [⟨1,_,_,_,hNo⟩] fun K hK=>?_;simp(disch:=omega) only[kc,tZ,ar.a,ab,Nat.reduceAdd,au,Nat.reduceEqDiff,cP,aA,aM,aW,Nat.le_refl,ai,aN,aC,List.find?_cons,aD,aX,CallRes.plain,aF,aH,ap,isPure,noRefTV,am,aG,aE,az,df,bJ,cellsOf,bH,putCells,aS,aT];apply hK)
      rw[<- hv]
      (refine ay ⟨.inr rfl,aO rfl ?_ rfl⟩;simp(disch:=omega) only[kc,bE,Tryz.results50,aP,aJ,Nat.reduceEqDiff,cP,aA,aM,aW,Nat.reduceAdd,Nat.le_refl,tZ])
section
def JP (k:Nat) (f:List Nat->Int):Prop:= ∀xs c d ys,xs.length+ys.length+2=k->f (xs++c::d::ys)= - f (xs++d::c::ys)
theorem JP.cons {k:Nat} {f:List Nat->Int} (h:JP (k+1) f) (c:Nat):JP k (fun l=>f (c::l)):=fun xs a b ys hl=>h (c::xs) a b ys (by simp;omega)
theorem A6 {r:Nat->Int}: ∀(cs:List Nat) {f g:List Nat->Int},(∀l,l.length+1=cs.length->f l= - g l)->dX r f cs= - dX r g cs
 |[],_,_,_=>rfl
 |c::cs,f,g,h=>by
  rw[dX,dX,h cs rfl,A6 cs (f:=fun l=>f (c::l)) (g:=fun l=>g (c::l)) (fun l hl=>h (c::l) (by simp;omega))]
  grind
theorem Az {r:Nat->Int}: ∀(xs:List Nat) (k:Nat) (f:List Nat->Int),JP k f-> ∀c d ys,xs.length+ys.length+2=k+1->dX r f (xs++c::d::ys)= - dX r f (xs++d::c::ys)
 |[],k,f,h,c,d,ys,hl=>by
  have e:=A6 (r:=r) ys (f:=fun l=>f (c::d::l)) (g:=fun l=>f (d::c::l)) (fun l hl'=>h [] c d l (by simp at hl⊢;omega))
  simp only[List.nil_append,dX]
  rw[e]
  grind
 |x::xs,k,f,h,c,d,ys,hl=>by
  obtain⟨k,rfl⟩: ∃k',k=k'+1:=⟨k-1,by simp at hl;omega⟩
  simp only[List.cons_append,dX]
  rw[Az xs k _ (h.cons x) c d ys (by simp at hl;omega),h xs c d ys (by simp at hl;omega)]
  grind
theorem zP (R:Nat->Nat->Int): ∀k,JP k (om R k)
 |0=>fun xs c d ys h=>by omega
 |k+1=>fun xs c d ys h=>Az xs k _ (zP R k) c d ys h
theorem vn {k:Nat} {f:List Nat->Int} (h:JP k f) (c:Nat) (ys:List Nat): ∀(xs zs:List Nat),zs.length+xs.length+ys.length+2=k->f (zs++c::(xs++c::ys))=0
 |[],zs,hl=>by
  have:=h zs c c ys (by simp at hl;omega)
  simp only[List.nil_append]
  omega
 |x::xs,zs,hl=>by
  have h1:=h zs c x (xs++c::ys) (by simp at hl⊢;omega)
  have h2:=vn h c ys xs (zs++[x]) (by simp at hl⊢;omega)
  rw[List.append_assoc]at h2
  simp only[List.cons_append,List.nil_append]at h1 h2⊢
  rw[h1,h2];rfl
/-! Columns. -/
theorem kY {r s:Nat->Int}: ∀(cs:List Nat) {f g:List Nat->Int},cs.Nodup->(∀c∈cs,r c=s c)->(∀l,l.length+1=cs.length->(∀c∈l,c∈cs)->l.Nodup->f l=g l)->dX r f cs=dX s g cs
 |[],_,_,_,_,_=>rfl
 |c::cs,f,g,hn,h,hf=>by
  obtain⟨hc,hn'⟩:=List.nodup_cons.1 hn
  rw[dX,dX,h c List.mem_cons_self,hf cs rfl (fun d hd=>List.mem_cons_of_mem _ hd) hn',kY cs hn' (fun d hd=>h d (List.mem_cons_of_mem _ hd)) (fun l hl hs hl2=>hf (c::l) (by simp;omega) (fun d hd=>by
   rcases List.mem_cons.1 hd with rfl|hd
   ·exact List.mem_cons_self
   ·exact List.mem_cons_of_mem _ (hs d hd)) (List.nodup_cons.2 ⟨fun h=>hc (hs c h),hl2⟩))]
def kS (R:Nat->Nat->Int) (a:Nat) (S:Nat->Int):Nat->Nat->Int:=fun i c=>if c=a then S i else R i c
theorem Ck (R:Nat->Nat->Int) (a:Nat):kS R a (fun i=>R i a)=R:=by
 funext i c
 unfold kS
 split
 ·rename_i h;rw[h]
 ·rfl
theorem A5 {a:Nat} {u t s s':Int} {r:Nat->Int}: ∀(cs:List Nat) (f fS fT:List Nat->Int),cs.Nodup->a∈cs->
  (∀l,l.length+1=cs.length->(∀c∈l,c∈cs)->l.Nodup->(a∈l->f l=u*fS l+t*fT l)/\(a∉l->fS l=f l/\fT l=f l))->
  dX (fun c=>if c=a then u*s+t*s' else r c) f cs=u*dX (fun c=>if c=a then s else r c) fS cs+t*dX (fun c=>if c=a then s' else r c) fT cs
 |[],_,_,_,_,h,_=>by simp at h
 |c::cs,f,fS,fT,hn,ha,h=>by
  obtain⟨hc,hn'⟩:=List.nodup_cons.1 hn
  have hsub: ∀l:List Nat,(∀c∈l,c∈cs)-> ∀d∈c::l,d∈c::cs:=fun l hs d hd=>by
   rcases List.mem_cons.1 hd with rfl|hd
   ·exact List.mem_cons_self
   ·exact List.mem_cons_of_mem _ (hs d hd)
  obtain⟨h1,h2⟩:=h cs rfl (fun d hd=>List.mem_cons_of_mem _ hd) hn'
  rw[dX,dX,dX]
  by_cases e:c=a
  ·subst e
   obtain⟨h3,h4⟩:=h2 hc
   have e0: ∀d∈cs,d≠c:=fun d hd e=>hc (e▸hd)
   have e1:dX (fun d=>if d=c then u*s+t*s' else r d) (fun l=>f (c::l)) cs=dX r (fun l=>u*fS (c::l)+t*fT (c::l)) cs:=
    kY cs hn' (fun d hd=>by simp[e0 d hd]) (fun l hl hs hl2=>(h (c::l) (by simp;omega) (hsub l hs) (List.nodup_cons.2 ⟨fun h=>hc (hs c h),hl2⟩)).1 List.mem_cons_self)
   have e2:dX (fun d=>if d=c then s else r d) (fun l=>fS (c::l)) cs=dX r (fun l=>fS (c::l)) cs:=kY cs hn' (fun d hd=>by simp[e0 d hd]) (fun _ _ _ _=>rfl)
   have e3:dX (fun d=>if d=c then s' else r d) (fun l=>fT (c::l)) cs=dX r (fun l=>fT (c::l)) cs:=kY cs hn' (fun d hd=>by simp[e0 d hd]) (fun _ _ _ _=>rfl)
   rw[e1,e2,e3,pK,h3,h4]
   simp only[if_pos]
   grind
  ·have ha':a∈cs:=by
    rcases List.mem_cons.1 ha with h|h
    ·exact absurd h.symm e
    ·exact h
   have ih:=A5 (u:=u) (t:=t) (s:=s) (s':=s') (r:=r) cs (fun l=>f (c::l)) (fun l=>fS (c::l)) (fun l=>fT (c::l)) hn' ha' (fun l hl hs hl2=>by
    obtain⟨q1,q2⟩:=h (c::l) (by simp;omega) (hsub l hs) (List.nodup_cons.2 ⟨fun h=>hc (hs c h),hl2⟩)
    exact⟨fun hal=>q1 (List.mem_cons_of_mem _ hal),fun hal=>q2 (fun h=>by
     rcases List.mem_cons.1 h with h|h
     ·exact e h.symm
     ·exact hal h)⟩)
   rw[ih,h1 ha']
   simp only[if_neg e]
   grind
theorem E5 {R:Nat->Nat->Int} {a:Nat} {u t:Int} {S T:Nat->Int}: ∀(k:Nat) (cs:List Nat),cs.Nodup->cs.length=k->a∈cs->
  om (kS R a (fun i=>u*S i+t*T i)) k cs=u*om (kS R a S) k cs+t*om (kS R a T) k cs
 |0,cs,_,hl,ha=>by rw[List.length_eq_zero_iff.1 hl]at ha;simp at ha
 |k+1,cs,hn,hl,ha=>by
  refine A5 (r:=R k) (s:=S k) (s':=T k) cs _ _ _ hn ha (fun l hl' hs hl2=>⟨fun hal=>E5 k l hl2 (by omega) hal,fun hal=>?_⟩)
  have hne: ∀c∈l,c≠a:=fun c hc e=>hal (e▸hc)
  exact⟨oU fun i _ c hc=>by simp[kS,hne c hc],oU fun i _ c hc=>by simp[kS,hne c hc]⟩
theorem A7 {r:Nat->Int} (p:Nat->Nat): ∀(cs:List Nat) (f:List Nat->Int),dX (fun c=>r (p c)) (fun l=>f (l.map p)) cs=dX r f (cs.map p)
 |[],_=>rfl
 |c::cs,f=>by
  rw[dX,List.map_cons,dX]
  have:=A7 (r:=r) p cs (fun l=>f (p c::l))
  rw[<- this]
  rfl
theorem E6 {R:Nat->Nat->Int} (p:Nat->Nat): ∀(k:Nat) (cs:List Nat),om (fun i c=>R i (p c)) k cs=om R k (cs.map p)
 |0,_=>rfl
 |k+1,cs=>by
  have e:om (fun i c=>R i (p c)) k=fun l=>om R k (l.map p):=funext (E6 p k)
  show dX (fun c=>R k (p c)) (om (fun i c=>R i (p c)) k) cs=_
  rw[e,A7 p cs (om R k)]
  rfl
theorem E7 {R:Nat->Nat->Int} {a b k:Nat} {cs:List Nat} (hn:cs.Nodup) (hl:cs.length=k) (ha:a∈cs) (hb:b∈cs) (hab:a≠b):om (kS R a (fun i=>R i b)) k cs=0:=by
 have e:kS R a (fun i=>R i b)=fun i c=>R i (if c=a then b else c):=by
  funext i c
  unfold kS
  split<;>rfl
 rw[e,E6 (R:=R) (fun c=>if c=a then b else c)]
 obtain⟨s,t,rfl⟩:=List.append_of_mem ha
 have hb':b∈s\/b∈t:=by
  rcases List.mem_append.1 hb with h|h
  ·exact .inl h
  ·rcases List.mem_cons.1 h with h|h
   ·exact absurd h.symm hab
   ·exact .inr h
 rcases hb' with h|h
 ·obtain⟨x,y,rfl⟩:=List.append_of_mem h
  simp only[List.map_append,List.map_cons,if_pos,if_neg (Ne.symm hab),List.append_assoc,List.cons_append]
  exact vn (zP R k) b _ _ _ (by simp at hl⊢;omega)
 ·obtain⟨x,y,rfl⟩:=List.append_of_mem h
  simp only[List.map_append,List.map_cons,if_pos,if_neg (Ne.symm hab)]
  exact vn (zP R k) b _ _ _ (by simp at hl⊢;omega)
theorem rR: ∀n,(mI n).length=n
 |0=>rfl
 |n+1=>by rw[mI,List.length_cons,rR n]
theorem pD: ∀n,(mI n).Nodup
 |0=>List.nodup_nil
 |n+1=>List.nodup_cons.2 ⟨fun h=>by have:=jY h;omega,pD n⟩
theorem vD {n c:Nat} (h:c<n):c∈mI n:=by
 induction n with
 |zero=>omega
 |succ n ih=>
  by_cases e:c=n
  ·rw[e];exact List.mem_cons_self
  ·exact List.mem_cons_of_mem _ (ih (by omega))
theorem ut {n p:Nat} (h:p<n): ∃hi,mI n=hi++p::mI p/\ ∀c∈hi,p<c:=by
 induction n with
 |zero=>omega
 |succ n ih=>
  by_cases e:p=n
  ·exact⟨[],by rw[e];rfl,fun c hc=>by simp at hc⟩
  ·obtain⟨hi,h1,h2⟩:=ih (by omega)
   exact⟨n::hi,by rw[mI,h1];rfl,fun c hc=>by
    rcases List.mem_cons.1 hc with rfl|hc
    ·omega
    ·exact h2 c hc⟩
section
variable {R:Nat->Nat->Int} {n a b:Nat} (ha:a<n)
include ha
theorem y7 (u t:Int) (S T:Nat->Int):dk (kS R a (fun i=>u*S i+t*T i)) n=u*dk (kS R a S) n+t*dk (kS R a T) n:=E5 n _ (pD n) (rR n) (vD ha)
theorem Ec (hb:b<n) (hab:a≠b):dk (kS R a (fun i=>R i b)) n=0:=E7 (pD n) (rR n) (vD ha) (vD hb) hab
theorem AR {S:Nat->Int} (h: ∀i,i<n->S i=0):dk (kS R a S) n=0:=by
 have h1:=y7 (R:=R) (n:=n) ha 0 0 S S
 have h2:dk (kS R a S) n=dk (kS R a (fun i=>0*S i+0*S i)) n:=ki fun i j hi _=>by
  unfold kS
  split
  ·show S i=0*S i+0*S i
   rw[h i hi];rfl
  ·rfl
 rw[h2,h1];omega
theorem AP: ∀(cs:List Nat) (g:List Nat->Int),(∀c∈cs,c≠a/\c<n)->dk (kS R a (fun i=>dX (R i) g cs)) n=0
 |[],g,_=>AR ha fun _ _=>rfl
 |c::cs,g,h=>by
  obtain⟨h1,h2⟩:=h c List.mem_cons_self
  have h3:=y7 (R:=R) (n:=n) ha (g cs) (-1) (fun i=>R i c) (fun i=>dX (R i) (fun l=>g (c::l)) cs)
  rw[Ec ha h2 (Ne.symm h1),AP cs _ (fun d hd=>h d (List.mem_cons_of_mem _ hd))]at h3
  have e:(fun i=>dX (R i) g (c::cs))=fun i=>g cs*R i c+ -1*dX (R i) (fun l=>g (c::l)) cs:=by
   funext i
   rw[dX]
   grind
  rw[e,h3];omega
end
theorem GO {f:Nat->Nat->Int} {n k:Nat} (hk:k<n) (h: ∀i,k<=i->i<n->bk f k i k=0) (hd:dk f k≠0):dk f n=0:=by
 have hz:=AR (R:=f) hk (S:=fun i=>bk f k i k) (fun i hi=>by
  by_cases e:i<k
  ·exact kM f e k
  ·exact h i (by omega) hi)
 have h1:=y7 (R:=f) (n:=n) hk (dk f k) (-1) (fun i=>f i k) (fun i=>dX (f i) (fun l=>om f k (k::l)) (mI k))
 rw[Ck,AP hk _ _ (fun c hc=>by have:=jY hc;omega)]at h1
 have e:(fun i=>bk f k i k)=fun i=>dk f k*f i k+ -1*dX (f i) (fun l=>om f k (k::l)) (mI k):=by
  funext i
  unfold bk dk
  rw[dX]
  grind
 rw[<- e,hz]at h1
 have:dk f k*dk f n=0:=by omega
 rcases Int.mul_eq_zero.1 this with h|h
 ·exact absurd h hd
 ·exact h
/-! Rows exchanged. -/
def E3:List (Nat->Int)->List Nat->Int
 |[]=>fun _=>1
 |r::rs=>dX r (E3 rs)
theorem zQ (R:Nat->Nat->Int): ∀k,om R k=E3 ((mI k).map R)
 |0=>rfl
 |k+1=>by rw[om,zQ R k];rfl
theorem E4 {l m:List (Nat->Int)} (h:l.Perm m): ∃e:Int,(e=1\/e= -1)/\ ∀cs,E3 m cs=e*E3 l cs:=by
 induction h with
 |nil=>exact⟨1,.inl rfl,fun cs=>by omega⟩
 | @cons r l₁ l₂ _ ih=>
  obtain⟨e,he,h⟩:=ih
  refine⟨e,he,fun cs=>?_⟩
  show dX r (E3 l₂) cs=e*dX r (E3 l₁) cs
  have:=pK r e 0 cs (E3 l₁) (E3 l₁)
  rw[show E3 l₂=fun l=>e*E3 l₁ l+0*E3 l₁ l from funext fun l=>by rw[h l];omega,this]
  omega
 |swap r s l=>exact⟨-1,.inr rfl,fun cs=>by
   show dX r (dX s _) cs= -1*dX s (dX r _) cs
   rw[oQ];omega⟩
 |trans _ _ ih1 ih2=>
  obtain⟨e1,he1,h1⟩:=ih1
  obtain⟨e2,he2,h2⟩:=ih2
  refine⟨e2*e1,?_,fun cs=>by rw[h2,h1,Int.mul_assoc]⟩
  rcases he1 with rfl|rfl<;>rcases he2 with rfl|rfl<;>decide
theorem Jj {f:Nat->Nat->Int} {n p k:Nat} (hp:p<n) (hk:k<=p):(dk (swp p k f) n).natAbs=(dk f n).natAbs:=by
 by_cases e:k=p
 ·subst e;rw[po]
 have hkp:k<p:=by omega
 obtain⟨hi,h1,h2⟩:=ut hp
 obtain⟨mid,h3,h4⟩:=ut hkp
 have hmid: ∀c∈mid,c<p:=fun c hc=>jY (by rw[h3];exact List.mem_append_left _ hc)
 have sw: ∀c,c≠p->c≠k->swp p k f c=f c:=fun c a b=>by simp[swp,a,b]
 have swp1:swp p k f p=f k:=by simp[swp]
 have swk:swp p k f k=f p:=by simp[swp,e]
 have m1:hi.map (swp p k f)=hi.map f:=List.map_congr_left fun c hc=>by have:=h2 c hc;exact sw c (by omega) (by omega)
 have m2:mid.map (swp p k f)=mid.map f:=List.map_congr_left fun c hc=>by have:=h4 c hc;have:=hmid c hc;exact sw c (by omega) (by omega)
 have m3:(mI k).map (swp p k f)=(mI k).map f:=List.map_congr_left fun c hc=>by have:=jY hc;exact sw c (by omega) (by omega)
 have hperm:((mI n).map f).Perm ((mI n).map (swp p k f)):=by
  rw[h1,h3]
  simp only[List.map_append,List.map_cons,m1,m2,m3,swp1,swk]
  refine List.Perm.append_left _ ?_
  exact((List.perm_middle.cons _).trans (List.Perm.swap _ _ _)).trans (List.perm_middle.symm.cons _)
 obtain⟨e,he,h⟩:=E4 hperm
 unfold dk
 rw[zQ,zQ,h]
 rcases he with rfl|rfl<;>omega
theorem xW {f:Nat->Nat->Int} {n k:Nat}: ∀m p,n-p=m->p<=n->(piv f n k p=n/\ ∀i,p<=i->i<n->f i k=0)\/(p<=piv f n k p/\piv f n k p<n/\f (piv f n k p) k≠0)
 |0,p,hm,hp=> .inl ⟨mS (by omega),fun i h1 h2=>by omega⟩
 |m+1,p,hm,hp=>by
  by_cases h0:f p k=0
  ·rw[pS (by omega) h0]
   rcases xW (f:=f) (n:=n) (k:=k) m (p+1) (by omega) (by omega)with⟨h1,h2⟩|⟨h1,h2,h3⟩
   ·exact .inl ⟨h1,fun i hi hin=>by
     by_cases e:i=p
     ·rw[e];exact h0
     ·exact h2 i (by omega) hin⟩
   ·exact .inr ⟨by omega,h2,h3⟩
  ·rw[pR (by omega) h0]
   exact .inr ⟨Nat.le_refl _,by omega,h0⟩
theorem xq {n:Nat}: ∀(m k:Nat) (f g:Nat->Nat->Int) (neg:Bool),n-k=m->k<=n->(∀t,t<k->dk f (t+1)≠0)->(∀i j,k<=i->i<n->k<=j->j<n->g i j=bk f k i j)->(detG n k g (dk f k) neg).natAbs=(dk f n).natAbs
 |0,k,f,g,neg,hm,hk,hd,hg=>by
  have:k=n:=by omega
  subst this
  rw[detG,if_neg (by omega)]
  cases neg<;>simp
 |m+1,k,f,g,neg,hm,hk,hd,hg=>by
  have hdk:dk f k≠0:=by
   cases k with
   |zero=>rw[fB];omega
   |succ k=>exact hd k (by omega)
  rw[detG,if_pos (show k<n by omega)]
  rcases xW (f:=g) (n:=n) (k:=k) (n-k) k rfl hk with⟨h1,h2⟩|⟨h1,h2,h3⟩
  ·rw[if_pos h1,GO (by omega) (fun i hi hin=>by rw[<- hg i k hi hin (Nat.le_refl _) (by omega)];exact h2 i hi hin) hdk]
  ·rw[if_neg (by omega),Gd]
   generalize piv g n k k=p at*
   have hom:om (swp p k f) k=om f k:=xR fun i hi=>by simp[swp,show i≠p by omega,show i≠k by omega]
   have hbk: ∀i j,k<=i->i<n->k<=j->j<n->swp p k g i j=bk (swp p k f) k i j:=fun i j hi hin hj hjn=>by
    unfold bk
    rw[hom]
    unfold swp
    split
    ·exact hg k j (Nat.le_refl _) (by omega) hj hjn
    ·split
     ·exact hg p j h1 h2 hj hjn
     ·exact hg i j hi hin hj hjn
   have hdl: ∀t,t<=k->dk (swp p k f) t=dk f t:=fun t ht=>ki fun i j hi _=>by simp[swp,show i≠p by omega,show i≠k by omega]
   have hkk:swp p k g k k=dk (swp p k f) (k+1):=by rw[hbk k k (Nat.le_refl _) (by omega) (Nat.le_refl _) (by omega),dw]
   have hne:swp p k g k k≠0:=by
    have:swp p k g k k=g p k:=by
     unfold swp
     split
     ·rename_i h;rw[<- h]
     ·rw[if_pos rfl]
    rw[this];exact h3
   rw[hkk]
   have hd': ∀t,t<k+1->dk (swp p k f) (t+1)≠0:=fun t ht=>by
    by_cases e:t=k
    ·rw[e,<- hkk];exact hne
    ·rw[hdl _ (by omega)];exact hd t (by omega)
   rw[xq m (k+1) (swp p k f) _ _ (by omega) (by omega) hd' (fun i j hi hin hj hjn=>?_),Jj h2 h1]
   have hs:=sylv (swp p k f) k (fun t ht=>hd' t (by omega)) i j
   rw[hdl k (Nat.le_refl _)]at hs
   show(if k<i/\k<j then _ else _)=_
   rw[if_pos ⟨by omega,by omega⟩,hkk,hbk i j (by omega) hin (by omega) hjn,hbk i k (by omega) hin (by omega) (by omega),hbk k j (by omega) (by omega) (by omega) hjn,<- hs,Int.mul_ediv_cancel_left _ hdk]
theorem rS (n:Nat) (f:Nat->Nat->Int):(detF n f).natAbs=(dk f n).natAbs:=
 xq n 0 f f false rfl (by omega) (fun t ht=>by omega) fun i j _ _ _ _=>(fA f i j).symm
end
theorem Jc (n:Nat) (h t:Nat->Nat->Int) (a b:Nat):jX n h t a b=BF n h (fun i=>t i a) (fun j=>t j b):=by
 unfold jX BF
 rw[kp,dQ n (G:=fun p=>lI (fun q=>t q a*h q p*t p b) n) (fun p _=>by rw[kp,<- FH];rfl),
  dQ n (F:=fun i=>t i a*_) (G:=fun q=>lI (fun p=>t q a*h q p*t p b) n) (fun q _=>by rw[<- pj];exact dQ n fun p _=>by grind)]
 exact tg _ _ _
theorem ry {n c:Nat} {f:Nat->Nat->Int} (h: ∀i j,pr (f i j)):MI (cd n c f):=fun r hr z hz=>by
 obtain⟨i,hi,rfl⟩:=List.mem_map.1 hr
 obtain⟨j,hj,rfl⟩:=List.mem_map.1 hz
 exact h i j
def lP (M:List (List Int)):Prop:=vg M/\(M.headD []).length=M.length/\M.length<=8/\(dk (ent M) M.length).natAbs=1
open Classical in
noncomputable def tE (M:List (List Int)):Bool:=decide (lP M)
theorem pq {M:List (List Int)} (h:lP M):tE M=true:=by simp[tE,h]
theorem lE {M:List (List Int)} (h: ¬lP M):tE M=false:=by simp[tE,h]
theorem w7 {n:Nat} (f:Nat->Nat->Int) (hn1:1<=n) (hn:n<=8):lP (cd n n f)↔(dk f n).natAbs=1:=by
 have hl:=bQ n n f
 have hh:=fK (n:=n) (c:=n) f hn1
 have hd:dk (ent (cd n n f)) n=dk f n:=ki fun i j hi hj=>oK f hi hj
 unfold lP
 rw[hl,hh,hd]
 exact⟨fun h=>h.2.2.2,fun h=>⟨i4 f hn1 (by omega) hn1 (by omega),rfl,hn,h⟩⟩
theorem lP.eq {M:List (List Int)} (h:lP M):M=cd M.length M.length (ent M):=by
 have:=qT h.1
 rwa[h.2.1]at this
def lV (M:List (List Int)):List (List Int):=cd M.length M.length (io (ent M))
theorem l8 {n c:Nat} (f:Nat->Nat->Int) {i:Nat} (hi:i<n):(cd n c f).getD i []=de c (f i):=by
 rw[List.getD_eq_getElem?_getD,cS _ _ hi];rfl
theorem uS {c:Nat} (f:Nat->Int) {j:Nat} (hj:j<c):(de c f).getD j 0=f j:=by
 rw[List.getD_eq_getElem?_getD,bK _ hj];rfl
theorem wN {M:List (List Int)} {n:Nat} {g:Nat->Nat->Int} (hM:ch M=true) (hn:M.length=n) {a b:Nat} (ha:a<n) (hb:b<n)
  (h1:FitB n (de n (io g a))=true) (h2:FitB n (de n (io g b))=true):vG M (cd n n (io g)) a b=jX n (ent M) g a b:=by
 unfold vG
 rw[l8 _ ha,l8 _ hb,zA hM (by rw[hn];exact h1) (by rw[hn];exact h2),hn,Jc]
 exact Ds (fun i j _ _=>rfl) (fun i hi=>uS _ hi) (fun i hi=>uS _ hi)
def Dt (n:Nat) (h g:Nat->Nat->Int):Prop:= ∀a,a<n-> ∀b,b<n-> -4611686018427387904<=jX n h g a b/\jX n h g a b<=4611686018427387904
theorem rt {M:List (List Int)} {n:Nat} {g:Nat->Nat->Int} (hn:M.length=n):JQ M (cd n n (io g))↔ch M=true/\(∀a,a<n->ve (de n (io g a))=true)/\Dt n (ent M) g:=by
 have hfit: ∀a,FitB n (de n (io g a))=true↔ve (de n (io g a))=true:=fun a=>by
  rw[fY];simp[cq]
 constructor
 ·rintro⟨h1,h2⟩
  rw[bQ]at h2
  have h3: ∀a,a<n->FitB n (de n (io g a))=true:=fun a ha=>by
   have:=(h2 a ha a ha).x
   rwa[l8 _ ha,hn]at this
  refine⟨h1,fun a ha=>(hfit a).1 (h3 a ha),fun a ha b hb=>?_⟩
  rw[<- wN h1 hn ha hb (h3 a ha) (h3 b hb)]
  exact⟨(h2 a ha b hb).lo,(h2 a ha b hb).hi⟩
 ·rintro⟨h1,h2,h3⟩
  refine⟨h1,fun a ha b hb=>?_⟩
  rw[bQ]at ha hb
  have f1:=(hfit a).2 (h2 a ha)
  have f2:=(hfit b).2 (h2 b hb)
  have:=h3 a ha b hb
  rw[<- wN h1 hn ha hb f1 f2]at this
  exact⟨by rw[l8 _ ha,hn];exact f1,by rw[l8 _ hb,hn];exact f2,this.1,this.2⟩
abbrev nJ (z:Int) (b:Bool):TV:= .tup [(true,cZ z),(false,[.p (.raw (.bool b))])]
theorem AE:cZ 0=[.p (.raw (.bool false)),.p (.sl [])]:=by unfold cZ;rw[show(0:Int).natAbs=0 from rfl,dx];rfl
theorem Ju (n:Nat) (f:Nat->Nat->Int) (hn1:1<=n) (hn:n<=16) (hf: ∀i j,i<n->j<n->Sz (f i j) 1024):
  CallC Tryz.prog 21 [ci (cd n n f)] ⟨[],nJ (detF n f) true⟩:=by
 have hS:=yl (cd n n f)
 rw[gO (i4 f hn1 hn hn1 hn),bQ,fK f hn1]at hS
 have hD:=sI n f hn1 hn hf
 generalize detF n f=d at*
 refine ax Tryz.func21 rfl (by kernel_rfl) ?_;rw[Tryz.ntmps21]
 (refine aa [] fun K hK=>?_;simp(disch:=omega) only[kc,ab,ci,List.replicate,bu,aN,aC,bi,Value.oneCell',Nat.reduceAdd,bH,ac];apply hK)
 (refine aa [⟨1,_,_,_,hS⟩] fun K hK=>?_;simp(disch:=omega) only[kc,ci,ar.a,ab,Nat.reduceAdd,ai,aN,aC,List.find?_cons,aD,aX,CallRes.plain,aF,aH,ap,noRefTV,am,aG,aE,aV,ak];apply hK)
 (refine ae (aa [] fun K hK=>?_);simp(disch:=omega) only[kc,ab,Nat.reduceAdd,bW,ak,dc,aB,ah,bA,bH,aQ];apply hK)
 refine af rfl (fun h=>by simp at h) (fun _=>aq ?_)
 show bT _ _ _ _
 (refine aa [⟨1,_,_,_,hD⟩] fun K hK=>?_;simp(disch:=omega) only[kc,ci,tZ,ar.a,ab,Nat.reduceAdd,ai,aN,aC,List.find?_cons,aD,aX,CallRes.plain,aF,aH,ap,noRefTV,am,aG,aE,az,df,bJ,aM,aJ,cellsOf,Nat.le_refl,isPure,bH,putCells,aS,aT,ac,Value.oneCell'];apply hK)
 (refine ay ⟨.inr rfl,aO rfl ?_ rfl⟩;simp(disch:=omega) only[kc,bE,Tryz.results21,cY,aP,aJ,cP,aA,aM,aW,Nat.reduceAdd,Nat.le_refl,bX,nJ,cZ])
theorem G6 (n c:Nat) (f:Nat->Nat->Int) (hn1:1<=n) (hn:n<=16) (hc1:1<=c) (hc:c<=16) (hne:n≠c):
  CallC Tryz.prog 21 [ci (cd n c f)] ⟨[],nJ 0 false⟩:=by
 have hS:=yl (cd n c f)
 rw[gO (i4 f hn1 hn hc1 hc),bQ,fK f hn1]at hS
 rw[nJ,AE]
 refine ax Tryz.func21 rfl (by kernel_rfl) ?_;rw[Tryz.ntmps21]
 (refine aa [] fun K hK=>?_;simp(disch:=omega) only[kc,ab,ci,List.replicate,bu,aN,aC,bi,Value.oneCell',Nat.reduceAdd,bH,ac];apply hK)
 (refine aa [⟨1,_,_,_,hS⟩] fun K hK=>?_;simp(disch:=omega) only[kc,ci,ar.a,ab,Nat.reduceAdd,ai,aN,aC,List.find?_cons,aD,aX,CallRes.plain,aF,aH,ap,noRefTV,am,aG,aE,aV,ak];apply hK)
 (refine ae (aa [] fun K hK=>?_);simp(disch:=omega) only[kc,ab,Nat.reduceAdd,bW,ak,dc,aB,ah,bf,Bool.not_false,bH,aQ];apply hK)
 refine af rfl (fun _=>?_) (fun h=>by simp at h<;>omega)
 (refine aa [] fun K hK=>?_;simp(disch:=omega) only[kc,ab,Nat.reduceAdd,eC,au,bi,fO,Value.oneCell',fm,az,df,bJ,aM,aJ,cellsOf,Nat.le_refl,isPure,bH,putCells,aS,aT,ac];apply hK)
 refine bT.weak (gL 2) ?_
 refine ay ⟨.inr rfl,aO rfl ?_ rfl⟩
 simp(disch:=omega) only[kc,bE,Tryz.results21,cY,aP,zH,aJ,bH,zO,yA,yE,cP,aA,aM,aW,Nat.reduceAdd,Nat.le_refl,bX]
theorem JD (n:Nat) (f:Nat->Nat->Int) (hn1:1<=n) (hn:n<=16) (hf: ∀i j,i<n->j<n->Sz (f i j) 1024):
  CallC Tryz.prog 55 [ci (cd n n f)] ⟨[],nJ (detF n f) true⟩:=by
 have hS:=ox (cd n n f)
 rw[wI f hn1 hn]at hS
 have hD:=gF n f hn1 hn hf
 generalize detF n f=d at*
 refine ax Tryz.func55 rfl (by kernel_rfl) ?_;rw[Tryz.ntmps55]
 (refine aa [] fun K hK=>?_;simp(disch:=omega) only[kc,ab,ci,List.replicate,bu,aN,aC,bi,Value.oneCell',Nat.reduceAdd,bH,ac];apply hK)
 (refine ae (aa [⟨1,_,_,_,hS⟩] fun K hK=>?_);simp(disch:=omega) only[kc,ci,ar.a,ab,Nat.reduceAdd,ai,aN,aC,List.find?_cons,aD,aX,CallRes.plain,aF,aH,ap,noRefTV,am,aG,aE,aV,ak];apply hK)
 (refine aa [] fun K hK=>?_;simp(disch:=omega) only[kc,ab,bW,ak,dc];apply hK)
 refine af rfl (fun h=>by simp at h) (fun _=>aq ?_)
 show bT _ _ _ _
 (refine aa [⟨1,_,_,_,hD⟩] fun K hK=>?_;simp(disch:=omega) only[kc,ci,tZ,ar.a,ab,Nat.reduceAdd,ai,aN,aC,List.find?_cons,aD,aX,CallRes.plain,aF,aH,ap,noRefTV,am,aG,aE,az,df,bJ,aM,aJ,cellsOf,Nat.le_refl,isPure,bH,putCells,aS,aT,ac,Value.oneCell'];apply hK)
 (refine ay ⟨.inr rfl,aO rfl ?_ rfl⟩;simp(disch:=omega) only[kc,bE,Tryz.results55,cY,aP,aJ,cP,aA,aM,aW,Nat.reduceAdd,Nat.le_refl,bX,nJ,cZ])
theorem Hr (n c:Nat) (f:Nat->Nat->Int) (hn1:1<=n) (hne:n≠c):
  CallC Tryz.prog 55 [ci (cd n c f)] ⟨[],nJ 0 false⟩:=by
 have hS:=ox (cd n c f)
 rw[FK f hn1 hne]at hS
 rw[nJ,AE]
 refine ax Tryz.func55 rfl (by kernel_rfl) ?_;rw[Tryz.ntmps55]
 (refine aa [] fun K hK=>?_;simp(disch:=omega) only[kc,ab,ci,List.replicate,bu,aN,aC,bi,Value.oneCell',Nat.reduceAdd,bH,ac];apply hK)
 (refine ae (aa [⟨1,_,_,_,hS⟩] fun K hK=>?_);simp(disch:=omega) only[kc,ci,ar.a,ab,Nat.reduceAdd,ai,aN,aC,List.find?_cons,aD,aX,CallRes.plain,aF,aH,ap,noRefTV,am,aG,aE,aV,ak];apply hK)
 (refine aa [] fun K hK=>?_;simp(disch:=omega) only[kc,ab,bW,ak,dc,Bool.not_false];apply hK)
 refine af rfl (fun _=>?_) (fun h=>by simp at h)
 (refine aa [] fun K hK=>?_;simp(disch:=omega) only[kc,ab,Nat.reduceAdd,eC,au,bi,fO,Value.oneCell',fm,az,df,bJ,aM,aJ,cellsOf,Nat.le_refl,isPure,bH,putCells,aS,aT,ac];apply hK)
 refine bT.weak (gL 2) ?_
 refine ay ⟨.inr rfl,aO rfl ?_ rfl⟩
 simp(disch:=omega) only[kc,bE,Tryz.results55,cY,aP,zH,aJ,bH,zO,yA,yE,cP,aA,aM,aW,Nat.reduceAdd,Nat.le_refl,bX]
theorem D1 (a:Int):decide (nH a 1=0)=decide (a=1):=by
 unfold nH
 split
 ·have:a≠1:=by omega
  simp[this]
 ·split<;>simp_all
theorem Hs (n:Nat) (f:Nat->Nat->Int) (hn1:1<=n) (hn:n<=16) (hf: ∀i j,i<n->j<n->Sz (f i j) 1024):
  CallC Tryz.prog 24 [ci (cd n n f)] ⟨[],.raw (.bool (decide ((dk f n).natAbs=1)))⟩:=by
 have hD:=JD n f hn1 hn hf
 have hsz:=kT hn hf
 have hab:=rS n f
 rw[<- hab]
 generalize detF n f=d at*
 have hA:=Ay d (hsz.mono (by omega))
 have hS:=gB 1 (by omega) (by omega)
 have hC:=tV d.natAbs 1 ((hsz.le (x:=(d.natAbs:Int)) (by simp)).mono (by omega)) (mr (by omega))
 have hc1:=D1 d.natAbs
 have hc2:decide (((d.natAbs:Nat):Int)=1)=decide (d.natAbs=1):=by
  by_cases h:d.natAbs=1<;>simp[h]<;>omega
 rw[hc2]at hc1
 refine ax Tryz.func24 rfl (by kernel_rfl) ?_;rw[Tryz.ntmps24]
 (refine aa [] fun K hK=>?_;simp(disch:=omega) only[kc,ab,ci,List.replicate,ac,Value.oneCell'];apply hK)
 (refine aa [⟨1,_,_,_,hD⟩] fun K hK=>?_;simp(disch:=omega) only[kc,ci,nJ,cZ,ar.a,ab,Nat.reduceAdd,ai,aN,aC,List.find?_cons,aD,aX,CallRes.plain,aF,aH,ap,noRefTV,am,aG,aE,aV,ak,bu,bi,Value.oneCell',bH,az,df,bJ,aM,aJ,cellsOf,Nat.le_refl,isPure,putCells,aS,aT];apply hK)
 (refine aa [⟨3,_,_,_,hA⟩,⟨4,_,_,_,hS⟩,⟨5,_,_,_,hC⟩] fun K hK=>?_;simp(disch:=omega) only[kc,tZ,bf,ar.a,ab,Nat.reduceAdd,aB,au,aJ,bH,aA,aM,aW,Nat.le_refl,cP,ai,aN,aC,List.find?_cons,aD,aX,CallRes.plain,aF,aH,ap,isPure,noRefTV,am,aG,aE,Nat.reduceBEq,ac,Value.oneCell',ak,ah,hc1,aQ];apply hK)
 (refine ay ⟨.inr rfl,aO rfl ?_ rfl⟩;simp(disch:=omega) only[bE,Tryz.results24,aP,List.getElem?_cons_succ,List.getElem?_cons_zero])
theorem Fm (n c:Nat) (f:Nat->Nat->Int) (hn1:1<=n) (hne:n≠c):
  CallC Tryz.prog 24 [ci (cd n c f)] ⟨[],.raw (.bool false)⟩:=by
 have hD:=Hr n c f hn1 hne
 refine ax Tryz.func24 rfl (by kernel_rfl) ?_;rw[Tryz.ntmps24]
 (refine aa [] fun K hK=>?_;simp(disch:=omega) only[kc,ab,ci,List.replicate,ac,Value.oneCell'];apply hK)
 (refine aa [⟨1,_,_,_,hD⟩] fun K hK=>?_;simp(disch:=omega) only[kc,ci,nJ,cZ,bf,ar.a,ab,Nat.reduceAdd,ai,aN,aC,List.find?_cons,aD,aX,CallRes.plain,aF,aH,ap,noRefTV,am,aG,aE,aV,ak,bu,bi,Value.oneCell',bH,az,df,bJ,aM,aJ,cellsOf,Nat.le_refl,isPure,putCells,aS,aT];apply hK)
 (refine aa [] fun K hK=>?_;simp(disch:=omega) only[kc,ab,Nat.reduceAdd,aB,au,aJ,cP,aA,aM,aW,Nat.le_refl,ai,aN,aC,List.find?_nil,aD,ac,Value.oneCell',ak,Option.map_none,aQ];apply hK)
 (refine ay ⟨.inr rfl,aO rfl ?_ rfl⟩;simp(disch:=omega) only[bE,Tryz.results24,aP,List.getElem?_cons_succ,List.getElem?_cons_zero])
theorem yy {n:Nat} (f:Nat->Nat->Int) (hn1:1<=n) (hn:n<=8):tE (cd n n f)=decide ((detF n f).natAbs=1):=by
 rw[rS]
 by_cases h:(dk f n).natAbs=1
 ·rw[pq ((w7 f hn1 hn).2 h)];simp[h]
 ·rw[lE (fun h'=>h ((w7 f hn1 hn).1 h'))];simp[h]
theorem yx {n c:Nat} (f:Nat->Nat->Int) (hn:8<n):tE (cd n c f)=false:=lE fun h=>by
 have:=h.2.2.1
 rw[bQ]at this
 omega
theorem BJ {n c:Nat} (f:Nat->Nat->Int) (hn1:1<=n) (hn:n≠c):tE (cd n c f)=false:=lE fun h=>by
 have:=h.2.1
 rw[bQ,fK f hn1]at this
 omega
theorem Fe (n c:Nat) (f:Nat->Nat->Int) (hn1:1<=n) (hn:n<=16) (hc1:1<=c) (hc:c<=16) (hf: ∀i j,pr (f i j)):
  CallC Tryz.prog 7 [ck (cd n c f)] ⟨[],.raw (.bool (tE (cd n c f)))⟩:=by
 have hF:=xV n c f hn1 hn hc1 hc (fun i j _ _=>hf i j)
 have hml:=bQ n c f
 by_cases h8:8<n
 ·rw[yx f h8]
  refine ax Tryz.func7 rfl (by kernel_rfl) ?_;rw[Tryz.ntmps7]
  (refine aa [] fun K hK=>?_;simp(disch:=omega) only[kc,ab,ck,List.replicate,ac,Value.oneCell'];apply hK)
  (refine aa [⟨1,_,_,_,hF⟩] fun K hK=>?_;simp(disch:=omega) only[kc,ck,xy,ar.a,ab,Nat.reduceAdd,ai,aN,aC,List.find?_cons,aD,aX,CallRes.plain,aF,aH,ap,noRefTV,am,aG,aE,aV,ak];apply hK)
  (refine ae (aa [] fun K hK=>?_);simp(disch:=omega) only[kc,ab,Nat.reduceAdd,bW,ak,dc,aB,aw,au,aL,aR,hml,ac,Value.oneCell',bH,ah,bA,aQ];apply hK)
  refine af rfl (fun _=>?_) (fun h=>by simp at h<;>omega)
  (refine aa [] fun K hK=>?_;simp(disch:=omega) only[kc,ab,ac,Value.oneCell'];apply hK)
  (refine ay ⟨.inr rfl,aO rfl ?_ rfl⟩;simp(disch:=omega) only[bE,Tryz.results7,aP,List.getElem?_cons_succ,List.getElem?_cons_zero])
 ·by_cases hnc:n=c
  ·subst hnc
   have hD:=Ju n f hn1 hn (fun i j _ _=>(hf i j).sz (by omega))
   have hsz:=kT hn (fun i j _ _=>(hf i j).sz (k:=1024) (by omega))
   rw[yy f hn1 (by omega)]
   generalize detF n f=d at*
   have hI:=xA d (hsz.mono (by omega))
   unfold il at hI
   by_cases hd1:d=1
   ·subst hd1
    rw[if_pos (by omega)]at hI
    refine ax Tryz.func7 rfl (by kernel_rfl) ?_;rw[Tryz.ntmps7]
    (refine aa [] fun K hK=>?_;simp(disch:=omega) only[kc,ab,ck,List.replicate,ac,Value.oneCell'];apply hK)
    (refine aa [⟨1,_,_,_,hF⟩] fun K hK=>?_;simp(disch:=omega) only[kc,ck,xy,ar.a,ab,Nat.reduceAdd,ai,aN,aC,List.find?_cons,aD,aX,CallRes.plain,aF,aH,ap,noRefTV,am,aG,aE,aV,ak];apply hK)
    (refine ae (aa [] fun K hK=>?_);simp(disch:=omega) only[kc,ab,Nat.reduceAdd,bW,ak,dc,aB,aw,au,aL,aR,hml,ac,Value.oneCell',bH,ah,bf,aQ];apply hK)
    refine af rfl (fun h=>by simp at h<;>omega) (fun _=>aq ?_)
    show bT _ _ _ _
    (refine aa [⟨1,_,_,_,hD⟩] fun K hK=>?_;simp(disch:=omega) only[kc,ci,nJ,cZ,bf,ar.a,ab,Nat.reduceAdd,ai,aN,aC,List.find?_cons,aD,aX,CallRes.plain,aF,aH,ap,noRefTV,am,aG,aE,aV,ak,bu,bi,Value.oneCell',bH,az,df,bJ,aM,aJ,cellsOf,Nat.le_refl,isPure,putCells,aS,aT];apply hK)
    (refine aa [⟨1,_,_,_,hI⟩] fun K hK=>?_;simp(disch:=omega) only[kc,tZ,bf,ar.a,ab,Nat.reduceAdd,au,aJ,cP,aA,aM,aW,Nat.le_refl,ai,aN,aC,List.find?_cons,aD,aX,CallRes.plain,aF,aH,ap,isPure,noRefTV,am,aG,aE,aV,ak];apply hK)
    (refine aa [] fun K hK=>?_;simp(disch:=omega) only[kc,ab,Nat.reduceAdd,aB,ak,ac,Value.oneCell',bH,ah,bA,reduceCtorEq,Option.map_none,aQ];apply hK)
    (refine ay ⟨.inr rfl,aO rfl ?_ rfl⟩;simp(disch:=omega) only[bE,Tryz.results7,aP,List.getElem?_cons_succ,List.getElem?_cons_zero,bA])
   ·by_cases hd2:d= -1
    ·subst hd2
     rw[if_pos (by omega)]at hI
     refine ax Tryz.func7 rfl (by kernel_rfl) ?_;rw[Tryz.ntmps7]
     (refine aa [] fun K hK=>?_;simp(disch:=omega) only[kc,ab,ck,List.replicate,ac,Value.oneCell'];apply hK)
     (refine aa [⟨1,_,_,_,hF⟩] fun K hK=>?_;simp(disch:=omega) only[kc,ck,xy,ar.a,ab,Nat.reduceAdd,ai,aN,aC,List.find?_cons,aD,aX,CallRes.plain,aF,aH,ap,noRefTV,am,aG,aE,aV,ak];apply hK)
     (refine ae (aa [] fun K hK=>?_);simp(disch:=omega) only[kc,ab,Nat.reduceAdd,bW,ak,dc,aB,aw,au,aL,aR,hml,ac,Value.oneCell',bH,ah,bf,aQ];apply hK)
     refine af rfl (fun h=>by simp at h<;>omega) (fun _=>aq ?_)
     show bT _ _ _ _
     (refine aa [⟨1,_,_,_,hD⟩] fun K hK=>?_;simp(disch:=omega) only[kc,ci,nJ,cZ,bA,ar.a,ab,Nat.reduceAdd,ai,aN,aC,List.find?_cons,aD,aX,CallRes.plain,aF,aH,ap,noRefTV,am,aG,aE,aV,ak,bu,bi,Value.oneCell',bH,az,df,bJ,aM,aJ,cellsOf,Nat.le_refl,isPure,putCells,aS,aT];apply hK)
     (refine aa [⟨1,_,_,_,hI⟩] fun K hK=>?_;simp(disch:=omega) only[kc,tZ,bA,ar.a,ab,Nat.reduceAdd,au,aJ,cP,aA,aM,aW,Nat.le_refl,ai,aN,aC,List.find?_cons,aD,aX,CallRes.plain,aF,aH,ap,isPure,noRefTV,am,aG,aE,aV,ak];apply hK)
     (refine aa [] fun K hK=>?_;simp(disch:=omega) only[kc,ab,Nat.reduceAdd,aB,ak,ac,Value.oneCell',bH,ah,reduceCtorEq,decide_false,bA,aQ];apply hK)
     (refine ay ⟨.inr rfl,aO rfl ?_ rfl⟩;simp(disch:=omega) only[bE,Tryz.results7,aP,List.getElem?_cons_succ,List.getElem?_cons_zero,bA])
    ·have hno:decide (d.natAbs=1)=false:=decide_eq_false (by omega)
     rw[hno]
     by_cases hfit: -9223372036854775808<=d/\d<=9223372036854775807
     ·rw[if_pos hfit]at hI
      refine ax Tryz.func7 rfl (by kernel_rfl) ?_;rw[Tryz.ntmps7]
      (refine aa [] fun K hK=>?_;simp(disch:=omega) only[kc,ab,ck,List.replicate,ac,Value.oneCell'];apply hK)
      (refine aa [⟨1,_,_,_,hF⟩] fun K hK=>?_;simp(disch:=omega) only[kc,ck,xy,ar.a,ab,Nat.reduceAdd,ai,aN,aC,List.find?_cons,aD,aX,CallRes.plain,aF,aH,ap,noRefTV,am,aG,aE,aV,ak];apply hK)
      (refine ae (aa [] fun K hK=>?_);simp(disch:=omega) only[kc,ab,Nat.reduceAdd,bW,ak,dc,aB,aw,au,aL,aR,hml,ac,Value.oneCell',bH,ah,bf,aQ];apply hK)
      refine af rfl (fun h=>by simp at h<;>omega) (fun _=>aq ?_)
      show bT _ _ _ _
      (refine aa [⟨1,_,_,_,hD⟩] fun K hK=>?_;simp(disch:=omega) only[kc,ci,nJ,cZ,ar.a,ab,Nat.reduceAdd,ai,aN,aC,List.find?_cons,aD,aX,CallRes.plain,aF,aH,ap,noRefTV,am,aG,aE,aV,ak,bu,bi,Value.oneCell',bH,az,df,bJ,aM,aJ,cellsOf,Nat.le_refl,isPure,putCells,aS,aT];apply hK)
      (refine aa [⟨1,_,_,_,hI⟩] fun K hK=>?_;simp(disch:=omega) only[kc,tZ,ar.a,ab,Nat.reduceAdd,au,aJ,cP,aA,aM,aW,Nat.le_refl,ai,aN,aC,List.find?_cons,aD,aX,CallRes.plain,aF,aH,ap,isPure,noRefTV,am,aG,aE,aV,ak];apply hK)
      (refine aa [] fun K hK=>?_;simp(disch:=omega) only[kc,ab,Nat.reduceAdd,aB,ak,ac,Value.oneCell',bH,ah,bf,aQ];apply hK)
      (refine ay ⟨.inr rfl,aO rfl ?_ rfl⟩;simp(disch:=omega) only[bE,Tryz.results7,aP,List.getElem?_cons_succ,List.getElem?_cons_zero])
     ·rw[if_neg hfit]at hI
      refine ax Tryz.func7 rfl (by kernel_rfl) ?_;rw[Tryz.ntmps7]
      (refine aa [] fun K hK=>?_;simp(disch:=omega) only[kc,ab,ck,List.replicate,ac,Value.oneCell'];apply hK)
      (refine aa [⟨1,_,_,_,hF⟩] fun K hK=>?_;simp(disch:=omega) only[kc,ck,xy,ar.a,ab,Nat.reduceAdd,ai,aN,aC,List.find?_cons,aD,aX,CallRes.plain,aF,aH,ap,noRefTV,am,aG,aE,aV,ak];apply hK)
      (refine ae (aa [] fun K hK=>?_);simp(disch:=omega) only[kc,ab,Nat.reduceAdd,bW,ak,dc,aB,aw,au,aL,aR,hml,ac,Value.oneCell',bH,ah,bf,aQ];apply hK)
      refine af rfl (fun h=>by simp at h<;>omega) (fun _=>aq ?_)
      show bT _ _ _ _
      (refine aa [⟨1,_,_,_,hD⟩] fun K hK=>?_;simp(disch:=omega) only[kc,ci,nJ,cZ,ar.a,ab,Nat.reduceAdd,ai,aN,aC,List.find?_cons,aD,aX,CallRes.plain,aF,aH,ap,noRefTV,am,aG,aE,aV,ak,bu,bi,Value.oneCell',bH,az,df,bJ,aM,aJ,cellsOf,Nat.le_refl,isPure,putCells,aS,aT];apply hK)
      (refine aa [⟨1,_,_,_,hI⟩] fun K hK=>?_;simp(disch:=omega) only[kc,tZ,ar.a,ab,Nat.reduceAdd,au,aJ,cP,aA,aM,aW,Nat.le_refl,ai,aN,aC,List.find?_cons,aD,aX,CallRes.plain,aF,aH,ap,isPure,noRefTV,am,aG,aE,aV,ak];apply hK)
      (refine aa [] fun K hK=>?_;simp(disch:=omega) only[kc,ab,Nat.reduceAdd,aB,ak,ac,Value.oneCell',bH,ah,bf,reduceCtorEq,decide_false,aQ];apply hK)
      (refine ay ⟨.inr rfl,aO rfl ?_ rfl⟩;simp(disch:=omega) only[bE,Tryz.results7,aP,List.getElem?_cons_succ,List.getElem?_cons_zero])
  ·rw[BJ f hn1 hnc]
   have hD:=G6 n c f hn1 hn hc1 hc hnc
   have hI:=xA 0 ((rl 1).mono (by omega))
   rw[il,if_pos (by omega)]at hI
   refine ax Tryz.func7 rfl (by kernel_rfl) ?_;rw[Tryz.ntmps7]
   (refine aa [] fun K hK=>?_;simp(disch:=omega) only[kc,ab,ck,List.replicate,ac,Value.oneCell'];apply hK)
   (refine aa [⟨1,_,_,_,hF⟩] fun K hK=>?_;simp(disch:=omega) only[kc,ck,xy,ar.a,ab,Nat.reduceAdd,ai,aN,aC,List.find?_cons,aD,aX,CallRes.plain,aF,aH,ap,noRefTV,am,aG,aE,aV,ak];apply hK)
   (refine ae (aa [] fun K hK=>?_);simp(disch:=omega) only[kc,ab,Nat.reduceAdd,bW,ak,dc,aB,aw,au,aL,aR,hml,ac,Value.oneCell',bH,ah,bf,aQ];apply hK)
   refine af rfl (fun h=>by simp at h<;>omega) (fun _=>aq ?_)
   show bT _ _ _ _
   (refine aa [⟨1,_,_,_,hD⟩] fun K hK=>?_;simp(disch:=omega) only[kc,ci,nJ,cZ,bf,ar.a,ab,Nat.reduceAdd,ai,aN,aC,List.find?_cons,aD,aX,CallRes.plain,aF,aH,ap,noRefTV,am,aG,aE,aV,ak,bu,bi,Value.oneCell',bH,az,df,bJ,aM,aJ,cellsOf,Nat.le_refl,isPure,putCells,aS,aT];apply hK)
   (refine aa [⟨1,_,_,_,hI⟩] fun K hK=>?_;simp(disch:=omega) only[kc,tZ,bf,ar.a,ab,Nat.reduceAdd,au,aJ,cP,aA,aM,aW,Nat.le_refl,ai,aN,aC,List.find?_cons,aD,aX,CallRes.plain,aF,aH,ap,isPure,noRefTV,am,aG,aE,aV,ak];apply hK)
   (refine aa [] fun K hK=>?_;simp(disch:=omega) only[kc,ab,Nat.reduceAdd,aB,ak,ac,Value.oneCell',Option.map_none,aQ];apply hK)
   (refine ay ⟨.inr rfl,aO rfl ?_ rfl⟩;simp(disch:=omega) only[bE,Tryz.results7,aP,List.getElem?_cons_succ,List.getElem?_cons_zero])
theorem JA (M:List (List Int)) (hM:MI M):CallC Tryz.prog 7 [ck M] ⟨[],.raw (.bool (tE M))⟩:=by
 by_cases hs:vg M
 ·have e:=qT hs
  have h1:=hs.1
  have h2:=hs.2.1
  have h3:=hs.2.2 _ (List.mem_of_getElem? (gI hs.1))
  have hf:=fun i j=>hM.ent i j
  rw[e]
  exact Fe _ _ _ h1 h2 h3.1 h3.2.1 hf
 ·have hF:=wa M hs
  rw[lE (fun h=>hs h.1)]
  refine ax Tryz.func7 rfl (by kernel_rfl) ?_;rw[Tryz.ntmps7]
  (refine aa [] fun K hK=>?_;simp(disch:=omega) only[kc,ab,ck,List.replicate,ac,Value.oneCell'];apply hK)
  (refine aa [⟨1,_,_,_,hF⟩] fun K hK=>?_;simp(disch:=omega) only[kc,ck,Ek,ar.a,ab,Nat.reduceAdd,ai,aN,aC,List.find?_cons,aD,aX,CallRes.plain,aF,aH,ap,noRefTV,am,aG,aE,aV,ak];apply hK)
  (refine ae (aa [] fun K hK=>?_);simp(disch:=omega) only[kc,ab,Nat.reduceAdd,bW,ak,dc,Bool.not_false,aB,reduceCtorEq,aw,au,aL,Option.map_none,ac,Value.oneCell',aQ];apply hK)
  refine af rfl (fun _=>?_) (fun h=>by simp at h)
  (refine aa [] fun K hK=>?_;simp(disch:=omega) only[kc,ab,ac,Value.oneCell'];apply hK)
  (refine ay ⟨.inr rfl,aO rfl ?_ rfl⟩;simp(disch:=omega) only[bE,Tryz.results7,aP,List.getElem?_cons_succ,List.getElem?_cons_zero])
theorem Fo (n c:Nat) (f:Nat->Nat->Int) (hn1:1<=n) (hn:n<=16) (hc1:1<=c) (hc:c<=16) (hf: ∀i j,pr (f i j)):
  CallC Tryz.prog 8 [ck (cd n c f)] ⟨[],.raw (.bool (tE (cd n c f)))⟩:=by
 have hF:=nk n c f hn1 hn hc1 hc (fun i j _ _=>hf i j)
 have hml:=bQ n c f
 by_cases h8:8<n
 ·rw[yx f h8]
  refine ax Tryz.func8 rfl (by kernel_rfl) ?_;rw[Tryz.ntmps8]
  (refine aa [] fun K hK=>?_;simp(disch:=omega) only[kc,ab,ck,List.replicate,ac,Value.oneCell'];apply hK)
  (refine aa [⟨1,_,_,_,hF⟩] fun K hK=>?_;simp(disch:=omega) only[kc,ck,xy,ar.a,ab,Nat.reduceAdd,ai,aN,aC,List.find?_cons,aD,aX,CallRes.plain,aF,aH,ap,noRefTV,am,aG,aE,aV,ak];apply hK)
  (refine aa [] fun K hK=>?_;simp(disch:=omega) only[kc,ab,Nat.reduceAdd,aB,aw,au,aZ,aR,hml,ak,ac,Value.oneCell',bH,ah,bf,aQ,ai,aN,aC,List.find?_nil,aD];apply hK)
  (refine ay ⟨.inr rfl,aO rfl ?_ rfl⟩;simp(disch:=omega) only[bE,Tryz.results8,aP,List.getElem?_cons_succ,List.getElem?_cons_zero])
 ·by_cases hnc:n=c
  ·subst hnc
   have hU:=Hs n f hn1 hn (fun i j _ _=>(hf i j).sz (by omega))
   rw[yy f hn1 (by omega),rS]
   generalize decide ((dk f n).natAbs=1)=b at*
   refine ax Tryz.func8 rfl (by kernel_rfl) ?_;rw[Tryz.ntmps8]
   (refine aa [] fun K hK=>?_;simp(disch:=omega) only[kc,ab,ck,List.replicate,ac,Value.oneCell'];apply hK)
   (refine aa [⟨1,_,_,_,hF⟩] fun K hK=>?_;simp(disch:=omega) only[kc,ck,xy,ar.a,ab,Nat.reduceAdd,ai,aN,aC,List.find?_cons,aD,aX,CallRes.plain,aF,aH,ap,noRefTV,am,aG,aE,aV,ak];apply hK)
   (refine aa [⟨8,_,_,_,hU⟩] fun K hK=>?_;simp(disch:=omega) only[kc,ci,ar.a,ab,Nat.reduceAdd,aB,aw,au,aZ,aR,hml,ak,ac,Value.oneCell',bH,ah,bA,aQ,ai,aN,aC,List.find?_cons,aD,aX,CallRes.plain,aF,aH,ap,noRefTV,am,aG,aE];apply hK)
   (refine ay ⟨.inr rfl,aO rfl ?_ rfl⟩;simp(disch:=omega) only[bE,Tryz.results8,aP,List.getElem?_cons_succ,List.getElem?_cons_zero])
  ·rw[BJ f hn1 hnc]
   have hU:=Fm n c f hn1 hnc
   refine ax Tryz.func8 rfl (by kernel_rfl) ?_;rw[Tryz.ntmps8]
   (refine aa [] fun K hK=>?_;simp(disch:=omega) only[kc,ab,ck,List.replicate,ac,Value.oneCell'];apply hK)
   (refine aa [⟨1,_,_,_,hF⟩] fun K hK=>?_;simp(disch:=omega) only[kc,ck,xy,ar.a,ab,Nat.reduceAdd,ai,aN,aC,List.find?_cons,aD,aX,CallRes.plain,aF,aH,ap,noRefTV,am,aG,aE,aV,ak];apply hK)
   (refine aa [⟨8,_,_,_,hU⟩] fun K hK=>?_;simp(disch:=omega) only[kc,ci,ar.a,ab,Nat.reduceAdd,aB,aw,au,aZ,aR,hml,ak,ac,Value.oneCell',bH,ah,bA,aQ,ai,aN,aC,List.find?_cons,aD,aX,CallRes.plain,aF,aH,ap,noRefTV,am,aG,aE];apply hK)
   (refine ay ⟨.inr rfl,aO rfl ?_ rfl⟩;simp(disch:=omega) only[bE,Tryz.results8,aP,List.getElem?_cons_succ,List.getElem?_cons_zero])
theorem zX (M:List (List Int)) (hM:MI M):CallC Tryz.prog 8 [ck M] ⟨[],.raw (.bool (tE M))⟩:=by
 by_cases hs:vg M
 ·have e:=qT hs
  have h1:=hs.1
  have h2:=hs.2.1
  have h3:=hs.2.2 _ (List.mem_of_getElem? (gI hs.1))
  have hf:=fun i j=>hM.ent i j
  rw[e]
  exact Fo _ _ _ h1 h2 h3.1 h3.2.1 hf
 ·have hF:=qj M hs
  rw[lE (fun h=>hs h.1)]
  refine ax Tryz.func8 rfl (by kernel_rfl) ?_;rw[Tryz.ntmps8]
  (refine aa [] fun K hK=>?_;simp(disch:=omega) only[kc,ab,ck,List.replicate,ac,Value.oneCell'];apply hK)
  (refine aa [⟨1,_,_,_,hF⟩] fun K hK=>?_;simp(disch:=omega) only[kc,ck,Ek,ar.a,ab,Nat.reduceAdd,ai,aN,aC,List.find?_cons,aD,aX,CallRes.plain,aF,aH,ap,noRefTV,am,aG,aE,aV,ak];apply hK)
  (refine aa [] fun K hK=>?_;simp(disch:=omega) only[kc,ab,Nat.reduceAdd,aB,aw,au,aZ,Option.map_none,ak,ac,Value.oneCell',aQ,ai,aN,aC,List.find?_nil,aD];apply hK)
  (refine ay ⟨.inr rfl,aO rfl ?_ rfl⟩;simp(disch:=omega) only[bE,Tryz.results8,aP,List.getElem?_cons_succ,List.getElem?_cons_zero])
end Go.Proofs.YtpgghglbpcabkaaGreat
