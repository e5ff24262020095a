/-
  Part 26 of a proof (walks and plain facts).
-/
import Derived.Test.YtfgeomlagfomgaaGreatDoorS24
set_option linter.all false
set_option maxRecDepth 100000
set_option maxHeartbeats 64000000
open Nat renaming reduceAdd → aa
namespace Go.Proofs.YtfgeomlagfomgaaGreatDoor
open Go.RowKit
theorem mo.mig {n:Nat} {h Q:FF} (k:mo n h Q):MI (bu n n (gmB n h Q)):=fun r hr z hz=>by
 obtain⟨i,hi,rfl⟩:=List.mem_map.1 hr;obtain⟨j,hj,rfl⟩:=List.mem_map.1 hz;have:=k.gb (List.mem_range.1 hi) (List.mem_range.1 hj);constructor<;>omega
theorem xM (dim kind:Nat) (L B:List Int) (hL:I8 L) (hdim:dim<=255) (hkind:kind<=255):
  CallG Tryz.prog 0 138 5 [tL dim kind L B] fi ⟨[],.raw (.bool true)⟩:=by
 obtain⟨n,hn⟩: ∃n,n=1+dim%4:=⟨_,rfl⟩;have hn1:1<=n:=by omega
 have hn4:n<=4:=by have:=Nat.mod_lt dim (show 0<4 by omega);omega
 obtain⟨h,hr,cF⟩:=GS dim kind L B 4 n hL hdim hkind (by omega) (by omega) hn;rw[show((4:Nat):Int)=4 from rfl]at cF;obtain⟨R,ok,_,cR⟩:=rL hn1 hn4 hr;generalize uX (gmB n h R) R=Q at*
 have cV:=wO (bu n n h) (bu n n (gmB n h Q)) (bu n n (trF Q)) (GV hn1 (by omega) hr) ok.mig ok.mi;rw[<- KE,ok.vf]at cV;have cA:=Dk;generalize bu n n h=M at*
 generalize bu n n (gmB n h Q)=GM at*
 generalize bu n n (trF Q)=T at*
 refine cY Tryz.func5 rfl (by kernel_rfl) ?_;rw[Tryz.ntmps5];refine aN fun _ K=>?_;simp(disch:=omega) only[kd,tL,List.replicate,aa];apply K
 refine cX [⟨1,_,_,_,cF⟩] [] fun _ K=>?_;simp only[kd,tL,bi,aa];apply K
 refine bN [⟨1,_,_,_,cR,rfl⟩] [] [] fun _ K=>?_;simp(disch:=omega) only[kd,bi,yM,di.a,aa];apply K
 refine bN [⟨10,_,_,_,cA,rfl⟩] [⟨6,_,_,_,cV⟩] [] fun _ K=>?_;simp(disch:=omega) only[kd,bi,di.a,aa,Nat.reduceBEq];apply K
 (refine cz ⟨.inr rfl,rfl,aH rfl ?_ rfl⟩;simp(disch:=omega) only[kd,Tryz.results5])
end Go.Proofs.YtfgeomlagfomgaaGreatDoor
