/-
  Part 25 of a proof (walks and plain facts).
-/
import Derived.Test.YtfgeomlagfomgaaGreatDoorQ23
set_option linter.all false
set_option maxRecDepth 100000
set_option maxHeartbeats 64000000
open Nat renaming reduceAdd → aa
namespace Go.Proofs.YtfgeomlagfomgaaGreatDoor
open Go.RowKit
section
structure lV (n:Nat) (h:FF) (Q:FF):Prop where
 n1:1<=n
 n4:n<=4
 red:RedR h n
 inb:InB2 n h 262144 Q
 mink:MinkP (gmB n h Q) n
theorem ia {n:Nat} {h:FF} (hn1:1<=n) (hn:n<=4) (hr:RedR h n): ∃R,lV n h (j7 (gmB n h R) R)/\RchB n h idF R/\
  CallG Tryz.prog 0 138 18 [bx (bs n n h)] iA ⟨[],CG (bs n n (gmB n h (j7 (gmB n h R) R))) (bs n n (trF (j7 (gmB n h R) R))) 0⟩:=by
 obtain⟨R,h1,h2,h3,h4⟩:=s7 hn1 hn hr;exact⟨R,⟨hn1,hn,hr,h3,h4⟩,h1,vu n h R hn1 hn hr h1⟩
section
variable {n:Nat} {h Q:FF}
theorem lV.gb (k:lV n h Q) {i j:Nat} (hi:i<n) (hj:j<n): -262144<=gmB n h Q i j/\gmB n h Q i j<=262144:=qr k.red.pd k.inb hi hj 262144 (by decide)
theorem lV.mred (k:lV n h Q):Ax (bs n n (gmB n h Q)):=
 J2 k.n1 k.n4 (fun i j hi hj=>by have:=k.gb hi hj;omega) (k.inb.pd k.red.pd) k.mink
theorem lV.ent (k:lV n h Q) {i j:Nat} (hi:i<n) (hj:j<n): -1099511627776<=Q i j/\Q i j<=1099511627776:=
 (show GdR n h (Q i)from k.inb.nr i hi).co k.n1 k.n4 k.red j hj
theorem lV.mi (k:lV n h Q):MI (bs n n (trF Q)):=fun r hr z hz=>by
 obtain⟨i,hi,rfl⟩:=List.mem_map.1 hr;obtain⟨j,hj,rfl⟩:=List.mem_map.1 hz;have:=k.ent (List.mem_range.1 hj) (List.mem_range.1 hi);have e:trF Q i j=Q j i:=rfl;constructor<;>omega
theorem EX (n:Nat) (Q:FF):li (bs n n (trF Q))=bs n n Q:=by
 unfold li;rw[aW];exact eg fun i j hi hj=>by
  show Go.Proofs.YtfgeomlagfomgaaGreatDoor.ent _ j i=_;rw[oB _ hj hi];rfl
theorem lV.trp (k:lV n h Q):QD (bs n n h) (bs n n (trF Q)):=by
 refine⟨by rw[aW,aW],(un _ k.n1 (by have:=k.n4;omega)).2 k.inb.dt,?_⟩;rw[EX];exact Fj k.n1 k.n4 k.red k.inb
theorem lV.form (k:lV n h Q):bs n n (vG (bs n n h) (li (bs n n (trF Q))))=bs n n (gmB n h Q):=by
 rw[EX];exact eg fun i j hi hj=>Ak k.n1 k.n4 k.red k.inb.nr hi hj
theorem F0 (n:Nat) (f:FF):Gh (bs n n f) n:=⟨aW _ _ _,fun q hq=>by
 obtain⟨i,_,rfl⟩:=List.mem_map.1 hq;exact bv _ _⟩
theorem lV.vf (k:lV n h Q):Ev (bs n n h) (bs n n (gmB n h Q)) (bs n n (trF Q))=0:=by
 unfold Ev;have h4:=k.n4;rw[if_pos (qS k.n1 (by omega) k.red),aW,if_pos h4,if_pos ⟨F0 _ _,F0 _ _⟩,if_pos];refine⟨k.trp,k.mred,?_⟩;rw[aW];exact k.form
end
theorem ze (dim kind:Nat) (L B:List Int) (hL:I8 L) (hdim:dim<=255) (hkind:kind<=255):
  CallG Tryz.prog 0 138 11 [tL dim kind L B] iA ⟨[],.raw (.bool true)⟩:=by
 obtain⟨n,hn⟩: ∃n,n=1+dim%4:=⟨_,rfl⟩;have hn1:1<=n:=by omega
 have hn4:n<=4:=by have:=Nat.mod_lt dim (show 0<4 by omega);omega
 obtain⟨h,hr,cF⟩:=OU dim kind L B 4 n hL hdim hkind (by omega) (by omega) hn;rw[show((4:Nat):Int)=4 from rfl]at cF;obtain⟨R,ok,_,cR⟩:=ia hn1 hn4 hr;generalize j7 (gmB n h R) R=Q at*
 have l1:=aW n n h;have l2:=aW n n (gmB n h Q);have l3:=aW n n (trF Q);have cI:=mu (bs n n (gmB n h Q)) true (by simp[ok.mred]);have cV:=G5 (bs n n h) (bs n n (gmB n h Q)) (bs n n (trF Q)) ok.mi (by omega) (by omega);rw[ok.vf]at cV;have cA:=tD;generalize bs n n h=M at*
 generalize bs n n (gmB n h Q)=GM at*
 generalize bs n n (trF Q)=T at*
 refine dB Tryz.func11 rfl (by kernel_rfl) ?_;rw[Tryz.ntmps11];refine aN fun _ K=>?_;simp(disch:=omega) only[kd,km,tL,List.replicate,aa];apply K
 refine dL [⟨1,_,_,_,cF⟩] [] fun _ K=>?_;simp only[kd,tL,bx,aa];apply K
 refine bz [⟨1,_,_,_,cR,rfl⟩] [] [] fun _ K=>?_;simp(disch:=omega) only[kd,km,bx,CG,da.a,aa];apply K
 refine bz [⟨11,_,_,_,cI,rfl⟩,⟨17,_,_,_,cV,rfl⟩,⟨21,_,_,_,cA,rfl⟩] [] [] fun _ K=>?_;simp(disch:=omega) only[kd,km,bx,da.a,aa,l2,l1,Nat.reduceBEq];apply K
 (refine dj ⟨.inr rfl,rfl,aJ rfl ?_ rfl⟩;simp(disch:=omega) only[kd,km,Tryz.results11])
end
end Go.Proofs.YtfgeomlagfomgaaGreatDoor
