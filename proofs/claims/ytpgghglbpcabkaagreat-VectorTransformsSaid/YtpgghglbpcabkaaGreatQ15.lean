/-
  Part 16 of a proof (walks and plain facts).
-/
import Derived.Test.YtpgghglbpcabkaaGreatQ14
import Derived.Lib.SmallJoins
import Derived.Shelf.SlSortCmp.WholeK
import Derived.Ground.SlsfProg
import Derived.Test.YtpgghglbpcabkaaGreatProg
set_option linter.all false
set_option maxRecDepth 100000
set_option maxHeartbeats 64000000
namespace Go.Proofs.YtpgghglbpcabkaaGreat
open Go.RowKit
theorem Gs {P:Program} {b:Nat} {ty:TypeId} {c z:Code} {Q:Exit->AS->List PV->Prop} {s S:AS} {cs cs1:List PV} (h1:f9 P b ty c (yr (fun s' k=>dG s' S/\k=cs1) Q) s cs) (h2:f9 P b ty z Q S cs1):f9 P b ty c (yr (f9 P b ty z Q) Q) s cs:=h1.mono fun e s' k h=>by
 cases e with
 |normal=>
  obtain⟨g1,rfl⟩:=h
  exact f9.weak g1 h2
 |_=>exact h
def kA (kind:Nat) (L:List Int) (n:Nat):(Nat->Nat->Int)×Nat:=
 if kind%8<4 then oq L (gR L 0 6,j9 L 0 n) n
 else if kind%8=4 then(upd (jc false n n) 0 0 (jc false n n 0 0+(iF L 0 3:Int)),dq L 0)
 else if kind%8=5 then(upd (jc true n n) (n-1) (n-1) (jc true n n (n-1) (n-1)+(iF L 0 2:Int)),dq L 0)
 else if kind%8=6 then(gR L 0 9,j9 L 0 n)
 else(gR L 0 1,j9 L 0 n)
open Classical in
noncomputable def oM (kind:Nat) (L:List Int) (n:Nat):Nat->Nat->Int:=if rr n (kA kind L n).1 then(kA kind L n).1 else gR L (kA kind L n).2 2
theorem mX (f:Nat->Nat->Int) (i j:Nat) (v:Int) (a b:Nat):upd f i j v a b=v\/upd f i j v a b=f a b:=by
 by_cases h:a=i/\b=j
 ·obtain⟨rfl,rfl⟩:=h;exact .inl (wM f a b v)
 ·exact .inr (mw (by omega))
def yF (f:Nat->Nat->Int):Prop:= ∀a b,-9<=f a b/\f a b<=9
theorem yF.i64 {f:Nat->Nat->Int} (h:yF f) (a b:Nat):pr (f a b):=by have:=h a b;exact⟨by omega,by omega⟩
theorem yF.upd {f:Nat->Nat->Int} (h:yF f) {i j:Nat} {v:Int} (h1: -9<=v) (h2:v<=9):yF (Go.Proofs.YtpgghglbpcabkaaGreat.upd f i j v):=fun a b=>by
 rcases mX f i j v a b with e|e
 ·rw[e];exact⟨h1,h2⟩
 ·rw[e];exact h a b
theorem vE {L:List Int} {a most:Nat} (h1:0<most) (h2:most<=9):yF (gR L a most):=fun i j=>by
 unfold gR
 split
 ·have:=iY (n:=most) L (j9 L a i) h1;omega
 ·omega
theorem Kp (x:Int): -2<=Int.tmod x 3/\Int.tmod x 3<=2:=by
 have h1:=Int.tmod_lt_of_pos x (show(0:Int)<3 by omega)
 have h2:=Int.lt_tmod_of_pos x (show(0:Int)<3 by omega)
 omega
theorem Ey {L:List Int} {i:Nat} {s:(Nat->Nat->Int)×Nat} (h:yF s.1): ∀k,yF (Gb L i s k).1
 |0=>h
 |k+1=>by
  have:=Kp (L.getD (Gb L i s k).2 0)
  exact((Ey h k).upd (by omega) (by omega)).upd (by omega) (by omega)
theorem Ex {L:List Int} {s:(Nat->Nat->Int)×Nat} (h:yF s.1): ∀i,yF (oq L s i).1
 |0=>h
 |i+1=>Ey (Ex h i) i
theorem nF (fork:Bool) (n:Nat): ∀i a b,-1<=jc fork n i a b/\jc fork n i a b<=2
 |0,_,_=>by simp[jc]
 |i+1,a,b=>by
  have ih:=nF fork n i
  have u: ∀(f:Nat->Nat->Int) (i j:Nat) (v:Int),(∀a b,-1<=f a b/\f a b<=2)-> -1<=v/\v<=2-> ∀a b,-1<=upd f i j v a b/\upd f i j v a b<=2:=fun f i j v hf hv a b=>by
   rcases mX f i j v a b with e|e
   ·rw[e];exact hv
   ·rw[e];exact hf a b
  unfold jc
  split
  ·exact u _ _ _ _ ih (by omega) a b
  ·exact u _ _ _ _ (u _ _ _ _ (u _ _ _ _ ih (by omega)) (by omega)) (by omega) a b
theorem Bu (kind:Nat) (L:List Int) (n:Nat):yF (kA kind L n).1:=by
 have b3:=iY (n:=3) L 0 (by omega)
 have b2:=iY (n:=2) L 0 (by omega)
 have c1:=nF false n n 0 0
 have c2:=nF true n n (n-1) (n-1)
 unfold kA
 split
 ·exact Ex (vE (by omega) (by omega)) n
 ·split
  ·exact yF.upd (fun a b=>by have:=nF false n n a b;omega) (by omega) (by omega)
  ·split
   ·exact yF.upd (fun a b=>by have:=nF true n n a b;omega) (by omega) (by omega)
   ·split
    ·exact vE (by omega) (by omega)
    ·exact vE (by omega) (by omega)
theorem Hu (kind:Nat) (L:List Int) (n:Nat):(kA kind L n).2<=L.length:=by
 unfold kA
 split
 ·exact zB (px (by omega) n) n
 ·split
  ·exact gy (by omega)
  ·split
   ·exact gy (by omega)
   ·split
    ·exact px (by omega) n
    ·exact px (by omega) n
abbrev tL (dim kind:Nat) (L B:List Int):TV:= .agg [.p (.raw (.int .u8 (dim:Int))),.p (.raw (.int .u8 (kind:Int))),.p (.sl (ls f8 L)),.p (.sl (ls f8 B))]
theorem IR (dim kind:Nat) (L B:List Int) (most n:Nat) (hL:I8 L) (hdim:dim<=255) (hkind:kind<=255) (hm1:1<=most) (hm8:most<=8) (hn:n=1+dim%most):
  CallC Tryz.prog 27 [tL dim kind L B,.raw (.int .i64 (most:Int))] ⟨[],ck (cd n n (oM kind L n))⟩:=by
 have hn1:1<=n:=by omega
 have hn8:n<=8:=by have:=Nat.mod_lt dim (show 0<most by omega);omega
 have e1:Int.tmod (dim:Int) (most:Int)=((dim%most:Nat):Int):=(Int.ofNat_tmod dim most).symm
 have e2:Int.tmod (kind:Int) 8=((kind%8:Nat):Int):=(Int.ofNat_tmod kind 8).symm
 have e3:1+((dim%most:Nat):Int)=(n:Int):=by omega
 refine ax Tryz.func27 rfl (by kernel_rfl) ?_;rw[Tryz.ntmps27]
 (refine aa [] fun K hK=>?_;simp(disch:=omega) only[kc,ab,tL,Nat.reduceAdd,List.replicate,cf,aN,aC,cellsOf,isPure,bH,ac,Value.oneCell'];apply hK)
 (refine aa [] fun K hK=>?_;simp(disch:=omega) only[kc,ab,Nat.reduceAdd,aK,au,Am,wL,aJ,aA,tA,eC,u9,yw,Value.oneCell',fm,cellsOf,Nat.reduceLeDiff,bH,cf,aN,aC,isPure,Nat.reduceEqDiff];apply hK)
 refine DD 11 (cs:=Ai L 0) rfl fun b=>?_
 refine f9.weak (aj (tm:=[jk,.raw (.int .i64 (most:Int)),.one (.ptr 2 0 0 0),jk,jk,dU b,jk,jk,jk,jk,jk,jk,jk,jk,jk,jk,jk,jk,jk,jk,jk,jk,jk,jk,jk,jk,jk,jk,jk,jk,jk,jk,jk,jk,jk,jk,jk,jk,jk,jk,jk,jk,jk,jk,jk,jk,jk,jk,jk,jk,jk,jk,jk,jk,jk,jk,jk,jk,jk,jk,jk,jk,jk,jk,jk,jk,jk,jk,jk,jk,jk,jk,jk,jk]) (l:=[(2,[⟨32,4,[[.p (.raw (.int .u8 (dim:Int))),.p (.raw (.int .u8 (kind:Int))),.p (.sl (ls f8 L)),.p (.sl (ls f8 B))]]⟩])]) ⟨rfl,trivial⟩ (by simp[b9,bo,bj,zF,lL])) ?_
 (refine bI [] [] (by simp) fun K hK=>?_;simp(disch:=omega) only[kc,ab,Nat.reduceAdd,dU,Hm,aK,au,Ak,FW,Nat.add_zero,aA,BG,bF,ak,Tryz.underlying5,BH,bC,ah,e1,bH,ac,Value.oneCell',e3];apply hK)
 (refine bI [] [] (by simp) fun K hK=>?_;simp(disch:=omega) only[kc,ab,ac,Value.oneCell'];apply hK)
 (refine dz (bI [] [] (by simp) fun K hK=>?_);simp(disch:=omega) only[kc,ab,Nat.reduceAdd,aK,au,Al,FW,aA,BG,ak,ac,Value.oneCell',ah,e2,bH];apply hK)
 have hraw:=Bu kind L n
 have hple:=Hu kind L n
 refine Gs (S:=⟨[jk,jk,jk,jk,jk,dU b,.raw (.int .i64 (n:Int)),ck (cd n n (kA kind L n).1),jk,jk,jk,jk,jk,jk,jk,jk,jk,jk,jk,jk,jk,jk,jk,jk,jk,jk,jk,jk,jk,jk,jk,jk,jk,jk,jk,jk,jk,jk,jk,jk,jk,jk,jk,jk,jk,jk,jk,jk,jk,jk,jk,jk,jk,jk,jk,jk,jk,jk,jk,jk,jk,jk,jk,jk,jk,jk,jk,jk,jk,jk,jk,jk,jk,jk],Hm []⟩) (cs1:=Ai L (kA kind L n).2) ?_ ?_
 ·have hk8:=Nat.mod_lt kind (show 0<8 by omega)
  have hG:kind%8<4->kA kind L n=oq L (gR L 0 6,j9 L 0 n) n:=fun h=>by unfold kA;rw[if_pos h]
  have cg:=Cy b L 0 n hL (by omega) hn8
  have cha:=AG n false hn8
  have chb:=AG n true hn8
  have cb3:=ot b L 0 3 hL (by omega) (by omega) (by omega)
  have cb2:=ot b L 0 2 hL (by omega) (by omega) (by omega)
  have cd9:=kU b L 0 n 9 hL (by omega) hn8 (by omega) (by omega)
  have cd1:=kU b L 0 n 1 hL (by omega) hn8 (by omega) (by omega)
  rw[show((3:Nat):Int)=3 from rfl]at cb3
  rw[show((2:Nat):Int)=2 from rfl]at cb2
  rw[show((9:Nat):Int)=9 from rfl]at cd9
  rw[show((1:Nat):Int)=1 from rfl]at cd1
  have q3:=iY (n:=3) L 0 (by omega)
  have q2:=iY (n:=2) L 0 (by omega)
  have r1:=nF false n n 0 0
  have r2:=nF true n n (n-1) (n-1)
  have x0:((n:Int)-1).toNat=n-1:=by omega
  have x1:=cX (n:=n) (i:=0) 35 n (by omega)
  have x2:=dE (n:=n) n (jc false n n) (i:=0) (by omega)
  have x3:=bK (m:=n) (jc false n n 0) (j:=0) (by omega)
  have y1:=cX (n:=n) (i:=n-1) 48 n (by omega)
  have y2:=dE (n:=n) n (jc true n n) (i:=n-1) (by omega)
  have y3:=bK (m:=n) (jc true n n (n-1)) (j:=n-1) (by omega)
  have hcase:kind%8=0\/kind%8=1\/kind%8=2\/kind%8=3\/kind%8=4\/kind%8=5\/kind%8=6\/kind%8=7:=by omega
  rcases hcase with hkk|hkk|hkk|hkk|hkk|hkk|hkk|hkk
  ·have hk:kind%8=0:=by omega
   rw[hk,show((0:Nat):Int)=0 from rfl]
   refine d9 ?_
   (refine dz (bI [] [] (by simp) fun K hK=>?_);simp(disch:=omega) only[kc,ab,ak,ac,Value.oneCell',ah,bA];apply hK)
   refine bV rfl (fun _=>g9 ?_) (fun h=>by simp at h)
   show f9 _ _ _ _ _ _ _
   refine bV rfl (fun _=>?_) (fun h=>by simp at h)
   ((refine ja 2 cg [] [] (by kernel_rfl) (by rfl) (by rfl) (by simp) fun K hK=>?_);simp(disch:=omega) only[kc,dU,ab,Nat.reduceAdd,ai,aN,aC,List.find?_cons,aD,aX,CallRes.plain,List.isEmpty_cons,aF,aH,ap,Bool.not_false,noRefTV,am,Bool.or_false,aG,aE,dm,Nat.reduceEqDiff];apply hK)
   rw[hG (by omega)]
   refine⟨(aj (tm:=[jk,jk,jk,jk,jk,dU b,.raw (.int .i64 (n:Int)),.one (.sl 31 0 0 n),jk,jk,jk,jk,jk,jk,jk,jk,jk,jk,jk,jk,jk,jk,jk,jk,jk,jk,jk,jk,jk,jk,jk,jk,jk,jk,jk,jk,jk,jk,jk,jk,jk,jk,jk,jk,jk,jk,jk,jk,jk,jk,jk,jk,jk,jk,jk,jk,jk,jk,jk,jk,jk,jk,jk,jk,jk,jk,jk,jk,jk,jk,jk,jk,jk,jk]) (l:=[(31,eK 31 n n ((oq L (gR L 0 6,j9 L 0 n) n).1))]) ⟨dY 0 31 n n _,trivial⟩ (by simp[b9,bo,bj])).trans ((cQ 31 (dK rfl)).trans (aj (tm:=[jk,jk,jk,jk,jk,dU b,.raw (.int .i64 (n:Int)),ck (cd n n ((oq L (gR L 0 6,j9 L 0 n) n).1)),jk,jk,jk,jk,jk,jk,jk,jk,jk,jk,jk,jk,jk,jk,jk,jk,jk,jk,jk,jk,jk,jk,jk,jk,jk,jk,jk,jk,jk,jk,jk,jk,jk,jk,jk,jk,jk,jk,jk,jk,jk,jk,jk,jk,jk,jk,jk,jk,jk,jk,jk,jk,jk,jk,jk,jk,jk,jk,jk,jk,jk,jk,jk,jk,jk,jk]) (l:=[]) trivial (by
    simp[b9,bo,bj]
    exact⟨rfl,rfl,(jZ (H:=Hm [(31,eK 31 n n ((oq L (gR L 0 6,j9 L 0 n) n).1))]) (d:=31) (n:=n) (c:=n) (f:=(oq L (gR L 0 6,j9 L 0 n) n).1) rfl).symm⟩))),rfl⟩
  ·have hk:kind%8=1:=by omega
   rw[hk,show((1:Nat):Int)=1 from rfl]
   refine d9 ?_
   (refine dz (bI [] [] (by simp) fun K hK=>?_);simp(disch:=omega) only[kc,ab,ak,ac,Value.oneCell',ah,bf];apply hK)
   refine bV rfl (fun h=>by simp at h) (fun _=>?_)
   (refine bI [] [] (by simp) fun K hK=>?_;simp(disch:=omega) only[kc,ab,ak,ac,Value.oneCell',ah,bA];apply hK)
   refine bV rfl (fun _=>g9 ?_) (fun h=>by simp at h)
   show f9 _ _ _ _ _ _ _
   refine bV rfl (fun _=>?_) (fun h=>by simp at h)
   ((refine ja 2 cg [] [] (by kernel_rfl) (by rfl) (by rfl) (by simp) fun K hK=>?_);simp(disch:=omega) only[kc,dU,ab,Nat.reduceAdd,ai,aN,aC,List.find?_cons,aD,aX,CallRes.plain,List.isEmpty_cons,aF,aH,ap,Bool.not_false,noRefTV,am,Bool.or_false,aG,aE,dm,Nat.reduceEqDiff];apply hK)
   rw[hG (by omega)]
   refine⟨(aj (tm:=[jk,jk,jk,jk,jk,dU b,.raw (.int .i64 (n:Int)),.one (.sl 31 0 0 n),jk,jk,jk,jk,jk,jk,jk,jk,jk,jk,jk,jk,jk,jk,jk,jk,jk,jk,jk,jk,jk,jk,jk,jk,jk,jk,jk,jk,jk,jk,jk,jk,jk,jk,jk,jk,jk,jk,jk,jk,jk,jk,jk,jk,jk,jk,jk,jk,jk,jk,jk,jk,jk,jk,jk,jk,jk,jk,jk,jk,jk,jk,jk,jk,jk,jk]) (l:=[(31,eK 31 n n ((oq L (gR L 0 6,j9 L 0 n) n).1))]) ⟨dY 0 31 n n _,trivial⟩ (by simp[b9,bo,bj])).trans ((cQ 31 (dK rfl)).trans (aj (tm:=[jk,jk,jk,jk,jk,dU b,.raw (.int .i64 (n:Int)),ck (cd n n ((oq L (gR L 0 6,j9 L 0 n) n).1)),jk,jk,jk,jk,jk,jk,jk,jk,jk,jk,jk,jk,jk,jk,jk,jk,jk,jk,jk,jk,jk,jk,jk,jk,jk,jk,jk,jk,jk,jk,jk,jk,jk,jk,jk,jk,jk,jk,jk,jk,jk,jk,jk,jk,jk,jk,jk,jk,jk,jk,jk,jk,jk,jk,jk,jk,jk,jk,jk,jk,jk,jk,jk,jk,jk,jk]) (l:=[]) trivial (by
    simp[b9,bo,bj]
    exact⟨rfl,rfl,(jZ (H:=Hm [(31,eK 31 n n ((oq L (gR L 0 6,j9 L 0 n) n).1))]) (d:=31) (n:=n) (c:=n) (f:=(oq L (gR L 0 6,j9 L 0 n) n).1) rfl).symm⟩))),rfl⟩
  ·have hk:kind%8=2:=by omega
   rw[hk,show((2:Nat):Int)=2 from rfl]
   refine d9 ?_
   (refine dz (bI [] [] (by simp) fun K hK=>?_);simp(disch:=omega) only[kc,ab,ak,ac,Value.oneCell',ah,bf];apply hK)
   refine bV rfl (fun h=>by simp at h) (fun _=>?_)
   (refine bI [] [] (by simp) fun K hK=>?_;simp(disch:=omega) only[kc,ab,ak,ac,Value.oneCell',ah,bf];apply hK)
   refine bV rfl (fun h=>by simp at h) (fun _=>?_)
   (refine bI [] [] (by simp) fun K hK=>?_;simp(disch:=omega) only[kc,ab,ak,ac,Value.oneCell',ah,bA];apply hK)
   refine bV rfl (fun _=>g9 ?_) (fun h=>by simp at h)
   show f9 _ _ _ _ _ _ _
   refine bV rfl (fun _=>?_) (fun h=>by simp at h)
   ((refine ja 2 cg [] [] (by kernel_rfl) (by rfl) (by rfl) (by simp) fun K hK=>?_);simp(disch:=omega) only[kc,dU,ab,Nat.reduceAdd,ai,aN,aC,List.find?_cons,aD,aX,CallRes.plain,List.isEmpty_cons,aF,aH,ap,Bool.not_false,noRefTV,am,Bool.or_false,aG,aE,dm,Nat.reduceEqDiff];apply hK)
   rw[hG (by omega)]
   refine⟨(aj (tm:=[jk,jk,jk,jk,jk,dU b,.raw (.int .i64 (n:Int)),.one (.sl 31 0 0 n),jk,jk,jk,jk,jk,jk,jk,jk,jk,jk,jk,jk,jk,jk,jk,jk,jk,jk,jk,jk,jk,jk,jk,jk,jk,jk,jk,jk,jk,jk,jk,jk,jk,jk,jk,jk,jk,jk,jk,jk,jk,jk,jk,jk,jk,jk,jk,jk,jk,jk,jk,jk,jk,jk,jk,jk,jk,jk,jk,jk,jk,jk,jk,jk,jk,jk]) (l:=[(31,eK 31 n n ((oq L (gR L 0 6,j9 L 0 n) n).1))]) ⟨dY 0 31 n n _,trivial⟩ (by simp[b9,bo,bj])).trans ((cQ 31 (dK rfl)).trans (aj (tm:=[jk,jk,jk,jk,jk,dU b,.raw (.int .i64 (n:Int)),ck (cd n n ((oq L (gR L 0 6,j9 L 0 n) n).1)),jk,jk,jk,jk,jk,jk,jk,jk,jk,jk,jk,jk,jk,jk,jk,jk,jk,jk,jk,jk,jk,jk,jk,jk,jk,jk,jk,jk,jk,jk,jk,jk,jk,jk,jk,jk,jk,jk,jk,jk,jk,jk,jk,jk,jk,jk,jk,jk,jk,jk,jk,jk,jk,jk,jk,jk,jk,jk,jk,jk,jk,jk,jk,jk,jk,jk]) (l:=[]) trivial (by
    simp[b9,bo,bj]
    exact⟨rfl,rfl,(jZ (H:=Hm [(31,eK 31 n n ((oq L (gR L 0 6,j9 L 0 n) n).1))]) (d:=31) (n:=n) (c:=n) (f:=(oq L (gR L 0 6,j9 L 0 n) n).1) rfl).symm⟩))),rfl⟩
  ·have hk:kind%8=3:=by omega
   rw[hk,show((3:Nat):Int)=3 from rfl]
   refine d9 ?_
   (refine dz (bI [] [] (by simp) fun K hK=>?_);simp(disch:=omega) only[kc,ab,ak,ac,Value.oneCell',ah,bf];apply hK)
   refine bV rfl (fun h=>by simp at h) (fun _=>?_)
   (refine bI [] [] (by simp) fun K hK=>?_;simp(disch:=omega) only[kc,ab,ak,ac,Value.oneCell',ah,bf];apply hK)
   refine bV rfl (fun h=>by simp at h) (fun _=>?_)
   (refine bI [] [] (by simp) fun K hK=>?_;simp(disch:=omega) only[kc,ab,ak,ac,Value.oneCell',ah,bf];apply hK)
   refine bV rfl (fun h=>by simp at h) (fun _=>?_)
   ((refine fH [] [] (by simp) fun K hK=>?_);simp(disch:=omega) only[kc,ab,ak,ac,Value.oneCell',ah,bA];apply hK)
   show f9 _ _ _ _ _ _ _
   refine bV rfl (fun _=>?_) (fun h=>by simp at h)
   ((refine ja 2 cg [] [] (by kernel_rfl) (by rfl) (by rfl) (by simp) fun K hK=>?_);simp(disch:=omega) only[kc,dU,ab,Nat.reduceAdd,ai,aN,aC,List.find?_cons,aD,aX,CallRes.plain,List.isEmpty_cons,aF,aH,ap,Bool.not_false,noRefTV,am,Bool.or_false,aG,aE,dm,Nat.reduceEqDiff];apply hK)
   rw[hG (by omega)]
   refine⟨(aj (tm:=[jk,jk,jk,jk,jk,dU b,.raw (.int .i64 (n:Int)),.one (.sl 31 0 0 n),jk,jk,jk,jk,jk,jk,jk,jk,jk,jk,jk,jk,jk,jk,jk,jk,jk,jk,jk,jk,jk,jk,jk,jk,jk,jk,jk,jk,jk,jk,jk,jk,jk,jk,jk,jk,jk,jk,jk,jk,jk,jk,jk,jk,jk,jk,jk,jk,jk,jk,jk,jk,jk,jk,jk,jk,jk,jk,jk,jk,jk,jk,jk,jk,jk,jk]) (l:=[(31,eK 31 n n ((oq L (gR L 0 6,j9 L 0 n) n).1))]) ⟨dY 0 31 n n _,trivial⟩ (by simp[b9,bo,bj])).trans ((cQ 31 (dK rfl)).trans (aj (tm:=[jk,jk,jk,jk,jk,dU b,.raw (.int .i64 (n:Int)),ck (cd n n ((oq L (gR L 0 6,j9 L 0 n) n).1)),jk,jk,jk,jk,jk,jk,jk,jk,jk,jk,jk,jk,jk,jk,jk,jk,jk,jk,jk,jk,jk,jk,jk,jk,jk,jk,jk,jk,jk,jk,jk,jk,jk,jk,jk,jk,jk,jk,jk,jk,jk,jk,jk,jk,jk,jk,jk,jk,jk,jk,jk,jk,jk,jk,jk,jk,jk,jk,jk,jk,jk,jk,jk,jk,jk,jk]) (l:=[]) trivial (by
    simp[b9,bo,bj]
    exact⟨rfl,rfl,(jZ (H:=Hm [(31,eK 31 n n ((oq L (gR L 0 6,j9 L 0 n) n).1))]) (d:=31) (n:=n) (c:=n) (f:=(oq L (gR L 0 6,j9 L 0 n) n).1) rfl).symm⟩))),rfl⟩
  ·have hk:kind%8=4:=by omega
   rw[hk,show((4:Nat):Int)=4 from rfl]
   refine d9 ?_
   (refine dz (bI [] [] (by simp) fun K hK=>?_);simp(disch:=omega) only[kc,ab,ak,ac,Value.oneCell',ah,bf];apply hK)
   refine bV rfl (fun h=>by simp at h) (fun _=>?_)
   (refine bI [] [] (by simp) fun K hK=>?_;simp(disch:=omega) only[kc,ab,ak,ac,Value.oneCell',ah,bf];apply hK)
   refine bV rfl (fun h=>by simp at h) (fun _=>?_)
   (refine bI [] [] (by simp) fun K hK=>?_;simp(disch:=omega) only[kc,ab,ak,ac,Value.oneCell',ah,bf];apply hK)
   refine bV rfl (fun h=>by simp at h) (fun _=>?_)
   ((refine fH [] [] (by simp) fun K hK=>?_);simp(disch:=omega) only[kc,ab,ak,ac,Value.oneCell',ah,bf];apply hK)
   show f9 _ _ _ _ _ _ _
   refine bV rfl (fun h=>by simp at h) (fun _=>?_)
   (refine bI [] [] (by simp) fun K hK=>?_;simp(disch:=omega) only[kc,ab,ak,ac,Value.oneCell',ah,bA];apply hK)
   refine bV rfl (fun _=>?_) (fun h=>by simp at h)
   (refine bI [⟨1,_,_,_,cha⟩] [] (by simp) fun K hK=>?_;simp(disch:=omega) only[kc,ar.a,ab,Nat.reduceAdd,ai,aN,aC,List.find?_cons,aD,ac,Value.oneCell',aX,CallRes.plain,List.isEmpty_cons,aF,aH,ap,Bool.not_false,noRefTV,am,Bool.or_false,aG,aE,dm,Nat.reduceEqDiff];apply hK)
   refine f9.weak (aj (tm:=[jk,jk,jk,jk,jk,dU b,.raw (.int .i64 (n:Int)),.one (.sl 35 0 0 n),jk,jk,jk,jk,jk,jk,jk,jk,jk,jk,jk,jk,jk,jk,jk,jk,jk,jk,jk,jk,jk,jk,jk,jk,jk,jk,jk,jk,jk,jk,jk,jk,jk,jk,jk,jk,jk,jk,jk,jk,jk,jk,jk,jk,jk,jk,jk,jk,jk,jk,jk,jk,jk,jk,jk,jk,jk,jk,jk,jk,jk,jk,jk,jk,jk,jk]) (l:=[(35,eK 35 n n (jc false n n))]) ⟨dY 0 35 n n _,trivial⟩ (by simp[b9,bo,bj])) ?_
   ((refine ns bY 6 cb3 [] [] (by kernel_rfl) (by kernel_rfl) (by rfl) (by rfl) (by simp) fun K hK=>?_);simp(disch:=omega) only[kc,dU,ab,Nat.reduceAdd,Hm,ag,au,ac,Value.oneCell',ao,Int.reduceToNat,aL,b7,Nat.add_zero,bH,x1,aA,ce,bM,x2,dL,cb,fI,x3,fF,ai,aN,aC,List.find?_cons,aD,aX,CallRes.plain,aF,aH,ap,noRefTV,am,aG,aE,ak,ah,bC,az,df,bJ,cellsOf,Nat.le_refl,isPure,putCells,eG,aS,aT];apply hK)
   rw[show kA kind L n=(upd (jc false n n) 0 0 (jc false n n 0 0+(iF L 0 3:Int)),dq L 0) by unfold kA;rw[if_neg (by omega),if_pos hk]]
   refine⟨(aj (tm:=[jk,jk,jk,jk,jk,dU b,.raw (.int .i64 (n:Int)),.one (.sl 35 0 0 n),jk,jk,jk,jk,jk,jk,jk,jk,jk,jk,jk,jk,jk,jk,jk,jk,jk,jk,jk,jk,jk,jk,jk,jk,jk,jk,jk,jk,jk,jk,jk,jk,jk,jk,jk,jk,jk,jk,jk,jk,jk,jk,jk,jk,jk,jk,jk,jk,jk,jk,jk,jk,jk,jk,jk,jk,jk,jk,jk,jk,jk,jk,jk,jk,jk,jk]) (l:=[(35,eK 35 n n (upd (jc false n n) 0 0 (jc false n n 0 0+(iF L 0 3:Int))))]) ⟨rfl,trivial⟩ (by simp[b9,bo,bj])).trans ((cQ 35 (dK rfl)).trans (aj (tm:=[jk,jk,jk,jk,jk,dU b,.raw (.int .i64 (n:Int)),ck (cd n n (upd (jc false n n) 0 0 (jc false n n 0 0+(iF L 0 3:Int)))),jk,jk,jk,jk,jk,jk,jk,jk,jk,jk,jk,jk,jk,jk,jk,jk,jk,jk,jk,jk,jk,jk,jk,jk,jk,jk,jk,jk,jk,jk,jk,jk,jk,jk,jk,jk,jk,jk,jk,jk,jk,jk,jk,jk,jk,jk,jk,jk,jk,jk,jk,jk,jk,jk,jk,jk,jk,jk,jk,jk,jk,jk,jk,jk,jk,jk]) (l:=[]) trivial (by
    simp[b9,bo,bj]
    exact⟨rfl,rfl,(jZ (H:=Hm [(35,eK 35 n n (upd (jc false n n) 0 0 (jc false n n 0 0+(iF L 0 3:Int))))]) (d:=35) (n:=n) (c:=n) (f:=upd (jc false n n) 0 0 (jc false n n 0 0+(iF L 0 3:Int))) rfl).symm⟩))),rfl⟩
  ·have hk:kind%8=5:=by omega
   rw[hk,show((5:Nat):Int)=5 from rfl]
   refine d9 ?_
   (refine dz (bI [] [] (by simp) fun K hK=>?_);simp(disch:=omega) only[kc,ab,ak,ac,Value.oneCell',ah,bf];apply hK)
   refine bV rfl (fun h=>by simp at h) (fun _=>?_)
   (refine bI [] [] (by simp) fun K hK=>?_;simp(disch:=omega) only[kc,ab,ak,ac,Value.oneCell',ah,bf];apply hK)
   refine bV rfl (fun h=>by simp at h) (fun _=>?_)
   (refine bI [] [] (by simp) fun K hK=>?_;simp(disch:=omega) only[kc,ab,ak,ac,Value.oneCell',ah,bf];apply hK)
   refine bV rfl (fun h=>by simp at h) (fun _=>?_)
   ((refine fH [] [] (by simp) fun K hK=>?_);simp(disch:=omega) only[kc,ab,ak,ac,Value.oneCell',ah,bf];apply hK)
   show f9 _ _ _ _ _ _ _
   refine bV rfl (fun h=>by simp at h) (fun _=>?_)
   (refine bI [] [] (by simp) fun K hK=>?_;simp(disch:=omega) only[kc,ab,ak,ac,Value.oneCell',ah,bf];apply hK)
   refine bV rfl (fun h=>by simp at h) (fun _=>?_)
   (refine bI [] [] (by simp) fun K hK=>?_;simp(disch:=omega) only[kc,ab,ak,ac,Value.oneCell',ah,bA];apply hK)
   refine bV rfl (fun _=>?_) (fun h=>by simp at h)
   (refine bI [⟨1,_,_,_,chb⟩] [] (by simp) fun K hK=>?_;simp(disch:=omega) only[kc,ar.a,ab,Nat.reduceAdd,ai,aN,aC,List.find?_cons,aD,ac,Value.oneCell',aX,CallRes.plain,List.isEmpty_cons,aF,aH,ap,Bool.not_false,noRefTV,am,Bool.or_false,aG,aE,dm,Nat.reduceEqDiff];apply hK)
   refine f9.weak (aj (tm:=[jk,jk,jk,jk,jk,dU b,.raw (.int .i64 (n:Int)),.one (.sl 48 0 0 n),jk,jk,jk,jk,jk,jk,jk,jk,jk,jk,jk,jk,jk,jk,jk,jk,jk,jk,jk,jk,jk,jk,jk,jk,jk,jk,jk,jk,jk,jk,jk,jk,jk,jk,jk,jk,jk,jk,jk,jk,jk,jk,jk,jk,jk,jk,jk,jk,jk,jk,jk,jk,jk,jk,jk,jk,jk,jk,jk,jk,jk,jk,jk,jk,jk,jk]) (l:=[(48,eK 48 n n (jc true n n))]) ⟨dY 0 48 n n _,trivial⟩ (by simp[b9,bo,bj])) ?_
   ((refine ns bY 10 cb2 [] [] (by kernel_rfl) (by kernel_rfl) (by rfl) (by rfl) (by simp) fun K hK=>?_);simp(disch:=omega) only[kc,dU,ab,Nat.reduceAdd,Hm,ak,ac,Value.oneCell',ah,bC,ag,au,ao,x0,aL,b7,bH,y1,aA,ce,bM,y2,dL,cb,fI,y3,fF,ai,aN,aC,List.find?_cons,aD,aX,CallRes.plain,aF,aH,ap,noRefTV,am,aG,aE,az,df,bJ,cellsOf,Nat.le_refl,isPure,putCells,eG,aS,aT];apply hK)
   rw[show kA kind L n=(upd (jc true n n) (n-1) (n-1) (jc true n n (n-1) (n-1)+(iF L 0 2:Int)),dq L 0) by unfold kA;rw[if_neg (by omega),if_neg (by omega),if_pos hk]]
   refine⟨(aj (tm:=[jk,jk,jk,jk,jk,dU b,.raw (.int .i64 (n:Int)),.one (.sl 48 0 0 n),jk,jk,jk,jk,jk,jk,jk,jk,jk,jk,jk,jk,jk,jk,jk,jk,jk,jk,jk,jk,jk,jk,jk,jk,jk,jk,jk,jk,jk,jk,jk,jk,jk,jk,jk,jk,jk,jk,jk,jk,jk,jk,jk,jk,jk,jk,jk,jk,jk,jk,jk,jk,jk,jk,jk,jk,jk,jk,jk,jk,jk,jk,jk,jk,jk,jk]) (l:=[(48,eK 48 n n (upd (jc true n n) (n-1) (n-1) (jc true n n (n-1) (n-1)+(iF L 0 2:Int))))]) ⟨rfl,trivial⟩ (by simp[b9,bo,bj])).trans ((cQ 48 (dK rfl)).trans (aj (tm:=[jk,jk,jk,jk,jk,dU b,.raw (.int .i64 (n:Int)),ck (cd n n (upd (jc true n n) (n-1) (n-1) (jc true n n (n-1) (n-1)+(iF L 0 2:Int)))),jk,jk,jk,jk,jk,jk,jk,jk,jk,jk,jk,jk,jk,jk,jk,jk,jk,jk,jk,jk,jk,jk,jk,jk,jk,jk,jk,jk,jk,jk,jk,jk,jk,jk,jk,jk,jk,jk,jk,jk,jk,jk,jk,jk,jk,jk,jk,jk,jk,jk,jk,jk,jk,jk,jk,jk,jk,jk,jk,jk,jk,jk,jk,jk,jk,jk]) (l:=[]) trivial (by
    simp[b9,bo,bj]
    exact⟨rfl,rfl,(jZ (H:=Hm [(48,eK 48 n n (upd (jc true n n) (n-1) (n-1) (jc true n n (n-1) (n-1)+(iF L 0 2:Int))))]) (d:=48) (n:=n) (c:=n) (f:=upd (jc true n n) (n-1) (n-1) (jc true n n (n-1) (n-1)+(iF L 0 2:Int))) rfl).symm⟩))),rfl⟩
  ·have hk:kind%8=6:=by omega
   rw[hk,show((6:Nat):Int)=6 from rfl]
   refine d9 ?_
   (refine dz (bI [] [] (by simp) fun K hK=>?_);simp(disch:=omega) only[kc,ab,ak,ac,Value.oneCell',ah,bf];apply hK)
   refine bV rfl (fun h=>by simp at h) (fun _=>?_)
   (refine bI [] [] (by simp) fun K hK=>?_;simp(disch:=omega) only[kc,ab,ak,ac,Value.oneCell',ah,bf];apply hK)
   refine bV rfl (fun h=>by simp at h) (fun _=>?_)
   (refine bI [] [] (by simp) fun K hK=>?_;simp(disch:=omega) only[kc,ab,ak,ac,Value.oneCell',ah,bf];apply hK)
   refine bV rfl (fun h=>by simp at h) (fun _=>?_)
   ((refine fH [] [] (by simp) fun K hK=>?_);simp(disch:=omega) only[kc,ab,ak,ac,Value.oneCell',ah,bf];apply hK)
   show f9 _ _ _ _ _ _ _
   refine bV rfl (fun h=>by simp at h) (fun _=>?_)
   (refine bI [] [] (by simp) fun K hK=>?_;simp(disch:=omega) only[kc,ab,ak,ac,Value.oneCell',ah,bf];apply hK)
   refine bV rfl (fun h=>by simp at h) (fun _=>?_)
   (refine bI [] [] (by simp) fun K hK=>?_;simp(disch:=omega) only[kc,ab,ak,ac,Value.oneCell',ah,bf];apply hK)
   refine bV rfl (fun h=>by simp at h) (fun _=>?_)
   (refine bI [] [] (by simp) fun K hK=>?_;simp(disch:=omega) only[kc,ab,ak,ac,Value.oneCell',ah,bA];apply hK)
   refine bV rfl (fun _=>?_) (fun h=>by simp at h)
   ((refine ja 2 cd9 [] [] (by kernel_rfl) (by rfl) (by rfl) (by simp) fun K hK=>?_);simp(disch:=omega) only[kc,dU,ab,Nat.reduceAdd,ai,aN,aC,List.find?_cons,aD,ac,Value.oneCell',aX,CallRes.plain,List.isEmpty_cons,aF,aH,ap,Bool.not_false,noRefTV,am,Bool.or_false,aG,aE,dm,Nat.reduceEqDiff];apply hK)
   rw[show kA kind L n=(gR L 0 9,j9 L 0 n) by unfold kA;rw[if_neg (by omega),if_neg (by omega),if_neg (by omega),if_pos hk]]
   refine⟨(aj (tm:=[jk,jk,jk,jk,jk,dU b,.raw (.int .i64 (n:Int)),.one (.sl 66 0 0 n),jk,jk,jk,jk,jk,jk,jk,jk,jk,jk,jk,jk,jk,jk,jk,jk,jk,jk,jk,jk,jk,jk,jk,jk,jk,jk,jk,jk,jk,jk,jk,jk,jk,jk,jk,jk,jk,jk,jk,jk,jk,jk,jk,jk,jk,jk,jk,jk,jk,jk,jk,jk,jk,jk,jk,jk,jk,jk,jk,jk,jk,jk,jk,jk,jk,jk]) (l:=[(66,eK 66 n n (gR L 0 9))]) ⟨dY 0 66 n n _,trivial⟩ (by simp[b9,bo,bj])).trans ((cQ 66 (dK rfl)).trans (aj (tm:=[jk,jk,jk,jk,jk,dU b,.raw (.int .i64 (n:Int)),ck (cd n n (gR L 0 9)),jk,jk,jk,jk,jk,jk,jk,jk,jk,jk,jk,jk,jk,jk,jk,jk,jk,jk,jk,jk,jk,jk,jk,jk,jk,jk,jk,jk,jk,jk,jk,jk,jk,jk,jk,jk,jk,jk,jk,jk,jk,jk,jk,jk,jk,jk,jk,jk,jk,jk,jk,jk,jk,jk,jk,jk,jk,jk,jk,jk,jk,jk,jk,jk,jk,jk]) (l:=[]) trivial (by
    simp[b9,bo,bj]
    exact⟨rfl,rfl,(jZ (H:=Hm [(66,eK 66 n n (gR L 0 9))]) (d:=66) (n:=n) (c:=n) (f:=gR L 0 9) rfl).symm⟩))),rfl⟩
  ·have hk:kind%8=7:=by omega
   rw[hk,show((7:Nat):Int)=7 from rfl]
   refine d9 ?_
   (refine dz (bI [] [] (by simp) fun K hK=>?_);simp(disch:=omega) only[kc,ab,ak,ac,Value.oneCell',ah,bf];apply hK)
   refine bV rfl (fun h=>by simp at h) (fun _=>?_)
   (refine bI [] [] (by simp) fun K hK=>?_;simp(disch:=omega) only[kc,ab,ak,ac,Value.oneCell',ah,bf];apply hK)
   refine bV rfl (fun h=>by simp at h) (fun _=>?_)
   (refine bI [] [] (by simp) fun K hK=>?_;simp(disch:=omega) only[kc,ab,ak,ac,Value.oneCell',ah,bf];apply hK)
   refine bV rfl (fun h=>by simp at h) (fun _=>?_)
   ((refine fH [] [] (by simp) fun K hK=>?_);simp(disch:=omega) only[kc,ab,ak,ac,Value.oneCell',ah,bf];apply hK)
   show f9 _ _ _ _ _ _ _
   refine bV rfl (fun h=>by simp at h) (fun _=>?_)
   (refine bI [] [] (by simp) fun K hK=>?_;simp(disch:=omega) only[kc,ab,ak,ac,Value.oneCell',ah,bf];apply hK)
   refine bV rfl (fun h=>by simp at h) (fun _=>?_)
   (refine bI [] [] (by simp) fun K hK=>?_;simp(disch:=omega) only[kc,ab,ak,ac,Value.oneCell',ah,bf];apply hK)
   refine bV rfl (fun h=>by simp at h) (fun _=>?_)
   (refine bI [] [] (by simp) fun K hK=>?_;simp(disch:=omega) only[kc,ab,ak,ac,Value.oneCell',ah,bf];apply hK)
   refine bV rfl (fun h=>by simp at h) (fun _=>?_)
   ((refine ja 2 cd1 [] [] (by kernel_rfl) (by rfl) (by rfl) (by simp) fun K hK=>?_);simp(disch:=omega) only[kc,dU,ab,Nat.reduceAdd,ai,aN,aC,List.find?_cons,aD,ac,Value.oneCell',aX,CallRes.plain,List.isEmpty_cons,aF,aH,ap,Bool.not_false,noRefTV,am,Bool.or_false,aG,aE,dm,Nat.reduceEqDiff];apply hK)
   rw[show kA kind L n=(gR L 0 1,j9 L 0 n) by unfold kA;rw[if_neg (by omega),if_neg (by omega),if_neg (by omega),if_neg (by omega)]]
   refine⟨(aj (tm:=[jk,jk,jk,jk,jk,dU b,.raw (.int .i64 (n:Int)),.one (.sl 23 0 0 n),jk,jk,jk,jk,jk,jk,jk,jk,jk,jk,jk,jk,jk,jk,jk,jk,jk,jk,jk,jk,jk,jk,jk,jk,jk,jk,jk,jk,jk,jk,jk,jk,jk,jk,jk,jk,jk,jk,jk,jk,jk,jk,jk,jk,jk,jk,jk,jk,jk,jk,jk,jk,jk,jk,jk,jk,jk,jk,jk,jk,jk,jk,jk,jk,jk,jk]) (l:=[(23,eK 23 n n (gR L 0 1))]) ⟨dY 0 23 n n _,trivial⟩ (by simp[b9,bo,bj])).trans ((cQ 23 (dK rfl)).trans (aj (tm:=[jk,jk,jk,jk,jk,dU b,.raw (.int .i64 (n:Int)),ck (cd n n (gR L 0 1)),jk,jk,jk,jk,jk,jk,jk,jk,jk,jk,jk,jk,jk,jk,jk,jk,jk,jk,jk,jk,jk,jk,jk,jk,jk,jk,jk,jk,jk,jk,jk,jk,jk,jk,jk,jk,jk,jk,jk,jk,jk,jk,jk,jk,jk,jk,jk,jk,jk,jk,jk,jk,jk,jk,jk,jk,jk,jk,jk,jk,jk,jk,jk,jk,jk,jk]) (l:=[]) trivial (by
    simp[b9,bo,bj]
    exact⟨rfl,rfl,(jZ (H:=Hm [(23,eK 23 n n (gR L 0 1))]) (d:=23) (n:=n) (c:=n) (f:=gR L 0 1) rfl).symm⟩))),rfl⟩
 ·generalize hrw:kA kind L n=rg at*
  obtain⟨f,p⟩:=rg
  simp only at hraw hple⊢
  have e5:oM kind L n=(open Classical in if rr n f then f else gR L p 2):=by unfold oM;rw[hrw]
  by_cases hg:rr n f
  ·rw[if_pos hg]at e5
   rw[e5]
   have c1:=Ep n f hn1 hn8 hraw.i64 true (by simp[hg])
   (refine dz (bI [⟨1,_,_,_,c1⟩] [] (by simp) fun K hK=>?_);simp(disch:=omega) only[kc,ck,ar.a,ab,Nat.reduceAdd,dU,Hm,ai,aN,aC,List.find?_cons,aD,aX,CallRes.plain,aF,aH,ap,noRefTV,am,aG,aE,bW,ak,dc];apply hK)
   refine bV rfl (fun h=>by simp at h) (fun _=>g9 ?_)
   show f9 _ _ _ _ _ _ _
   (refine bI [] [] (by simp) fun K hK=>?_;simp(disch:=omega) only[kc,ab];apply hK)
   refine oA ⟨.inr rfl,aO rfl ?_ rfl⟩
   simp(disch:=omega) only[bE,Tryz.results27,aP,List.getElem?_cons_succ,List.getElem?_cons_zero,ck]
  ·rw[if_neg hg]at e5
   rw[e5]
   have c1:=Ep n f hn1 hn8 hraw.i64 false (by simp[hg])
   have c2:=kU b L p n 2 hL hple hn8 (by omega) (by omega)
   rw[show((2:Nat):Int)=2 from rfl]at c2
   (refine dz (bI [⟨1,_,_,_,c1⟩] [] (by simp) fun K hK=>?_);simp(disch:=omega) only[kc,ck,ar.a,ab,Nat.reduceAdd,dU,Hm,ai,aN,aC,List.find?_cons,aD,aX,CallRes.plain,aF,aH,ap,noRefTV,am,aG,aE,bW,ak,dc,Bool.not_false];apply hK)
   refine bV rfl (fun _=>?_) (fun h=>by simp at h)
   (refine mE 2 c2 [] [] (by kernel_rfl) (by rfl) (by rfl) (by simp) fun K hK=>?_;simp(disch:=omega) only[kc,dU,ab,Nat.reduceAdd,ai,aN,aC,List.find?_cons,aD,ac,Value.oneCell',aX,CallRes.plain,List.isEmpty_cons,aF,aH,ap,Bool.not_false,noRefTV,am,Bool.or_false,aG,aE,dm];apply hK)
   refine f9.weak (aj (tm:=[jk,jk,jk,jk,.one (.sl 72 0 0 n),jk,jk,jk,jk,jk,jk,jk,jk,jk,jk,jk,jk,jk,jk,jk,jk,jk,jk,jk,jk,jk,jk,jk,jk,jk,jk,jk,jk,jk,jk,jk,jk,jk,jk,jk,jk,jk,jk,jk,jk,jk,jk,jk,jk,jk,jk,jk,jk,jk,jk,jk,jk,jk,jk,jk,jk,jk,jk,jk,jk,jk,jk,jk,jk,jk,jk,jk,jk,jk]) (l:=[(72,eK 72 n n (gR L p 2))]) ⟨dY 0 72 n n _,trivial⟩ (by simp[b9,bo,bj])) ?_
   refine f9.weak ((cQ 72 (dK rfl)).trans (aj (tm:=[jk,jk,jk,jk,ck (cd n n (gR L p 2)),jk,jk,jk,jk,jk,jk,jk,jk,jk,jk,jk,jk,jk,jk,jk,jk,jk,jk,jk,jk,jk,jk,jk,jk,jk,jk,jk,jk,jk,jk,jk,jk,jk,jk,jk,jk,jk,jk,jk,jk,jk,jk,jk,jk,jk,jk,jk,jk,jk,jk,jk,jk,jk,jk,jk,jk,jk,jk,jk,jk,jk,jk,jk,jk,jk,jk,jk,jk,jk]) (l:=[]) trivial (by
    simp[b9,bo,bj]
    exact(jZ (H:=Hm [(72,eK 72 n n (gR L p 2))]) (d:=72) (n:=n) (c:=n) (f:=gR L p 2) rfl).symm))) ?_
   refine oA ⟨.inr rfl,aO rfl ?_ rfl⟩
   simp(disch:=omega) only[bE,Tryz.results27,aP,ck,List.getElem?_cons_succ,List.getElem?_cons_zero]
theorem Dz (n c:Nat) (f:Nat->Nat->Int) (hn1:1<=n) (hn:n<=16) (hc1:1<=c) (hc:c<=16) (hf: ∀i j:Nat,i<n->j<c->pr (f i j)):
  CallC Tryz.prog 32 [ci (cd n c f)] ⟨[],.tup [(false,[.p (.sl (ls (fR fI) (cd n c f)))]),(false,[.p (.raw (.bool true))])]⟩:=by
 have hS:=mB (cd n c f)
 rw[gO (i4 f hn1 hn hc1 hc),bQ,fK f hn1]at hS
 refine ax Tryz.func32 rfl (by kernel_rfl) ?_;rw[Tryz.ntmps32]
 (refine aa [] fun K hK=>?_;simp(disch:=omega) only[kc,ab,ci,List.replicate,ac,Value.oneCell'];apply hK)
 (refine aa [⟨1,_,_,_,hS⟩] fun K hK=>?_;simp(disch:=omega) only[kc,ci,ar.a,ab,Nat.reduceAdd,ai,aN,aC,List.find?_cons,aD,aX,CallRes.plain,aF,aH,ap,noRefTV,am,aG,aE,aV,ak];apply hK)
 (refine ae (aa [] fun K hK=>?_);simp(disch:=omega) only[kc,ab,bW,ak,dc];apply hK)
 refine af rfl (fun h=>by simp at h) (fun _=>aq ?_)
 show bT _ _ _ _
 (refine aa [] fun K hK=>?_;simp(disch:=omega) only[kc,ab,Nat.reduceAdd,bZ,aN,aC,aL,gX,b7,jT,Int.natCast_nonneg,Value.oneCell',and_true,bH];apply hK)
 (refine ae (aa [] fun K hK=>?_);simp(disch:=omega) only[kc,ab,Nat.reduceAdd,aw,au,aL,ac,Value.oneCell'];apply hK)
 refine bD (G:=mz n) (fun g=>⟨[ci (cd n c f),jk,jk,jk,jk,.raw (.int .i64 (c:Int)),jk,.one (.sl 21 0 0 n),jk,jk,jk,jk,jk,jk,jk,jk,jk,jk,jk,jk,jk,jk,jk,.raw (.int .i64 (n:Int)),.raw (.int .i64 (g.i:Int)),jk,jk,jk,jk,jk,jk,jk,jk,jk,jk,jk,jk,jk,jk,jk,jk,jk,jk,jk,jk,jk,jk,jk,jk,jk,jk,jk,jk,jk,jk,jk,jk,jk,jk,jk,jk,jk,jk],Hm [(21,kI 21 n c g.i (part f g.i 0))]⟩) (fun g=>n-g.i) ⟨0,by omega⟩ ?_ ?_
 ·refine aj ⟨?_,trivial⟩ ?_
  ·show[_]=_
   simp[gY,cd]
  ·simp[b9,bo,bj]
 ·rintro⟨i,hi⟩
  simp only
  by_cases hm:i<n
  ·have hr:=cS c f hm
   have k1:=nP (i:=i) (n:=n) 21 c hm
   have k2:=iv (i:=i) (n:=n) 21 c hi
   have k3:=bQ i c (part f i 0)
   have k4:=kW (i:=i) (n:=n) (c:=c) 21 (part f i 0) hm (fun j hj=>by unfold part;rw[if_neg (by omega)])
   have k5:=nO (i:=i+1) (k:=i) (n:=n) 21 c (by omega)
   have k6:=iv (i:=i+1) (n:=n) 21 c (by omega)
   have k7:=dE (n:=i+1) c (part f i 0) (i:=i) (by omega)
   (refine aa [] fun K hK=>?_;simp(disch:=omega) only[kc,ab,ci,Hm,ak,ah,bA];apply hK)
   refine ae (af rfl (fun _=>aq ?_) (fun h=>by simp at h<;>omega))
   refine ae (aI ?_)
   (refine aa [] fun K hK=>?_;simp(disch:=omega) only[kc,ab];apply hK)
   (refine aa [] fun K hK=>?_;simp(disch:=omega) only[kc,ab,Nat.reduceAdd,bZ,aN,aC,bM,gK,dL,j8,Int.natCast_nonneg,Value.oneCell',and_true,bH,Nat.reduceEqDiff,ag,au,ao,aL,aJ,b7,az,df,bJ,k1,putCells,cP,List.length_replicate,List.all_replicate,isPure,List.length_map,k3,aS,aT,Nat.reduceBEq];apply hK)
   refine bT.weak (aj (tm:=[ci (cd n c f),jk,jk,jk,jk,.raw (.int .i64 (c:Int)),jk,.one (.sl 21 0 0 n),.raw (.int .i64 (i:Int)),jk,jk,jk,jk,jk,jk,jk,jk,jk,jk,jk,jk,jk,jk,.raw (.int .i64 (n:Int)),.raw (.int .i64 (i:Int)),jk,jk,jk,jk,jk,jk,jk,jk,jk,jk,jk,jk,jk,jk,jk,jk,jk,jk,jk,jk,jk,jk,jk,jk,jk,jk,jk,jk,jk,jk,jk,jk,jk,jk,jk,jk,jk,jk]) (l:=[(21,kI 21 n c (i+1) (part f i 0))]) ⟨?_,trivial⟩ (by simp[b9,bo,bj])) ?_
   ·first|exact k4|rfl
   (refine aa [] fun K hK=>?_;simp(disch:=omega) only[kc,ab,Nat.reduceAdd,ci,Hm,ag,au,ao,aL,b7,bH,k5,aA,ce,aw,bM,ac,Value.oneCell'];apply hK)
   refine bD (G:=mz c) (fun g=>⟨[ci (cd n c f),jk,jk,jk,jk,.raw (.int .i64 (c:Int)),jk,.one (.sl 21 0 0 n),.raw (.int .i64 (i:Int)),jk,jk,jk,jk,jk,jk,jk,jk,jk,jk,jk,jk,jk,jk,.raw (.int .i64 (n:Int)),.raw (.int .i64 (i:Int)),jk,jk,jk,jk,jk,jk,jk,jk,jk,jk,jk,.raw (.int .i64 (c:Int)),.raw (.int .i64 (g.i:Int)),jk,jk,jk,jk,jk,jk,jk,jk,jk,jk,jk,jk,jk,jk,jk,jk,jk,jk,jk,jk,jk,jk,jk,jk,jk],Hm [(21,kI 21 n c (i+1) (part f i g.i))]⟩) (fun g=>c-g.i) ⟨0,by omega⟩ ?_ ?_
   ·refine aj ⟨rfl,trivial⟩ ?_
    simp[b9,bo,bj]
   ·rintro⟨j,hj⟩
    simp only
    by_cases hm3:j<c
    ·have hjr:=bK (f i) hm3
     have hz:=hf i j hm hm3
     have cI:=vf (f i j) (hz.sz (by omega))
     rw[il,if_pos (show -9223372036854775808<=f i j/\f i j<=9223372036854775807 from hz)]at cI
     have q7:=dE (n:=i+1) c (part f i j) (i:=i) (by omega)
     have q8:=bK (part f i j i) hm3
     (refine aa [] fun K hK=>?_;simp(disch:=omega) only[kc,ab,ci,Hm,ak,ah,bA];apply hK)
     refine ae (af rfl (fun _=>aq ?_) (fun h=>by simp at h<;>omega))
     refine ae (aI ?_)
     (refine aa [] fun K hK=>?_;simp(disch:=omega) only[kc,ab];apply hK)
     (refine aa [⟨7,_,_,_,cI⟩] fun K hK=>?_;simp(disch:=omega) only[kc,tZ,ar.a,ab,Nat.reduceAdd,ag,au,ao,aZ,bG,hr,fR,cw,aA,cu,bL,hjr,fZ,aM,aW,Nat.le_refl,ai,aN,aC,List.find?_cons,aD,aX,CallRes.plain,aF,aH,ap,isPure,noRefTV,am,aG,aE,aV,ak];apply hK)
     (refine ae (aa [] fun K hK=>?_);simp(disch:=omega) only[kc,ab,bW,ak,dc];apply hK)
     refine af rfl (fun h=>by simp at h) (fun _=>aq ?_)
     show bT _ _ _ _
     ((refine aU [] [] (by simp) fun K hK=>?_);simp(disch:=omega) only[kc,ab,Nat.reduceAdd,ag,au,ao,aL,b7,bH,k5,aA,ce,bM,q7,dL,az,df,bJ,cb,fI,q8,cellsOf,Nat.le_refl,isPure,putCells,eG,aS,aT];apply hK)
     show bT _ _ _ _
     ((refine aU [] [] (by simp) fun K hK=>?_);simp(disch:=omega) only[kc,ab,ak,ac,Value.oneCell',ah,bC];apply hK)
     refine⟨⟨j+1,by omega⟩,by simp only;omega,aj ⟨?_,trivial⟩ ?_⟩
     ·show _::_=_::_
      rw[da fun a b _ _=>ji f i j a b]
     ·simp[b9,bo,bj]
    ·have hjc:j=c:=by omega
     subst hjc
     (refine aa [] fun K hK=>?_;simp(disch:=omega) only[kc,ab,ci,Hm,ak,ah,bf];apply hK)
     refine ae (af rfl (fun h=>by simp at h<;>omega) (fun _=>bv ?_))
     show bT _ _ _ _
     ((refine aU [] [] (by simp) fun K hK=>?_);simp(disch:=omega) only[kc,ab,ak,ac,Value.oneCell',ah,bC];apply hK)
     refine⟨⟨i+1,by omega⟩,by simp only;omega,aj ⟨?_,trivial⟩ ?_⟩
     ·show _::_=_::_
      rw[da fun a b _ hb=>kv f i a b hb]
     ·simp[b9,bo,bj]
  ·have hin:i=n:=by omega
   subst hin
   (refine aa [] fun K hK=>?_;simp(disch:=omega) only[kc,ab,ci,Hm,ak,ah,bf];apply hK)
   refine ae (af rfl (fun h=>by simp at h<;>omega) (fun _=>bv ?_))
   show bT _ _ _ _
   have e:kI 21 i c i (part f i 0)=eK 21 i c f:=by
    rw[nM]
    show _::_=_::_
    rw[da fun a b ha _=>ku f a b ha]
   rw[e]
   refine bT.weak ((cQ 21 (dK rfl)).trans (aj (tm:=[jk,jk,jk,jk,jk,jk,jk,ck (cd i c f),jk,jk,jk,jk,jk,jk,jk,jk,jk,jk,jk,jk,jk,jk,jk,jk,jk,jk,jk,jk,jk,jk,jk,jk,jk,jk,jk,jk,jk,jk,jk,jk,jk,jk,jk,jk,jk,jk,jk,jk,jk,jk,jk,jk,jk,jk,jk,jk,jk,jk,jk,jk,jk,jk,jk]) (l:=[]) trivial (by simp[b9,bo,bj];exact(jZ (H:=Hm [(21,eK 21 i c f)]) (d:=21) (n:=i) (c:=c) (f:=f) rfl).symm))) ?_
   (refine aa [] fun K hK=>?_;simp(disch:=omega) only[kc,ab,Nat.reduceAdd,ck,Hm,ac,Value.oneCell'];apply hK)
   (refine ay ⟨.inr rfl,aO rfl ?_ rfl⟩;simp(disch:=omega) only[bE,Tryz.results32,cY,aP,List.getElem?_cons_succ,List.getElem?_cons_zero,Option.bind_some,bX,Option.map_some])
structure KE (n:Nat) (f0 h T:Nat->Nat->Int) where
 f:Nat->Nat->Int
 t:Nat->Nat->Int
 s:Nat
 adds:Nat
 inv:RedI n f0 f t s adds
 rch:Rch n f t h T
theorem zy (a b:Nat):Sz (km a b) 1:=by unfold km;split<;>exact mq (by decide) (by omega)
theorem Hw {n:Nat} {f0 f t h T:Nat->Nat->Int} (hn1:1<=n) (hn:n<=8) (hd:dk f0 n<=10000) (hr:Rch n f t h T): ∀s adds,RedI n f0 f t s adds->qH h n:=by
 induction hr with
 |done f t hc=>exact fun s adds hI=>hI.red hn1 hd hc
 |step f t h T c hc _ ih=>
  intro s adds hI
  cases c with
  |add i j=>exact ih _ _ (hI.add hn hc).1
  |swp m=>exact ih _ _ (hI.swap hn hc)
theorem CO {n:Nat} {f0 f t:Nat->Nat->Int} {s adds:Nat} (h:RedI n f0 f t s adds) (hn:n<=8) {c:Ch} (hc:scanF f n=some c): ∀a b,a<n->b<n->Sz (Iy f c a b) 42:=fun a b ha hb=>by
 obtain⟨hF,hi⟩:=iz hc
 cases c with
 |add i j=>
  have hi:i<n:=hi
  show Sz (DJ i j (cF f i j) a b) 42
  rcases mX km j i (cF f i j) a b with e|e
  ·unfold DJ;rw[e];exact(h.szc hn hi hF.1).mono (by omega)
  ·unfold DJ;rw[e];exact(zy a b).mono (by omega)
 |swp m=>exact(zy _ b).mono (by omega)
theorem Jd {n:Nat} (f:Nat->Nat->Int) {c:Ch} (hc:scanF f n=some c):cd n n (jX n f (Iy f c))=cd n n (KK f c):=by
 obtain⟨hF,hi⟩:=iz hc
 refine ko fun a b ha hb=>?_
 cases c with
 |add i j=>exact GG (by have:=hF.1;omega) (by have:i<n:=hi;have:=hF.1;omega) f a b ha hb
 |swp m=>exact Je hi f a b ha hb
theorem Dy (n:Nat) (f:Nat->Nat->Int) (hn1:1<=n) (hn:n<=8) (hb:yF f) (hg:rr n f):
  ∃h T,qH h n/\CallC Tryz.prog 25 [ci (cd n n f)] ⟨[],.tup [(false,[.p (.sl (ls (fR fI) (cd n n h)))]),(false,[.p (.sl (ls (fR fZ) (cd n n T)))]),(false,[.p (.raw (.int .i64 0))])]⟩:=by
 obtain⟨hs,hp,hd⟩:=hg
 have hst:RedI n f f km 0 0:=RedI.start hn1 hn hs hp (fun a b=>by have:=hb a b;omega) (fun a b _ _=>zy a b)
 have hdk:dk f n<=10000:=by
  have:=(we hp (n-1) (by omega)).2
  rw[show n-1+1=n by omega]at this
  omega
 obtain⟨h,T,hr⟩:=n8 (f0:=f) hn _ f km 0 0 (Nat.le_refl _) hst
 have hred:=Hw hn1 hn hdk hr 0 0 hst
 refine⟨h,T,hred,?_⟩
 have hI9: ∀i j:Nat,pr (f i j):=hb.i64
 have hsz: ∀i j,i<n->j<n->Sz (f i j) 1024:=fun i j _ _=>(hI9 i j).sz (by omega)
 obtain⟨e,he,c1⟩:=nr n n f hn1 (by omega) hn1 (by omega) hsz
 have he0:e=0:=he.2 ⟨rfl,hn,hs,hp⟩
 subst he0
 have c2:=ym n f hn1 (by omega) hsz
 rw[decide_eq_true hd]at c2
 have c3:=Du n n f (by omega) hn1 (by omega) (fun i j hi hj=>(hsz i j hi hj).mono (by omega))
 have c4:=ru n hn1 (by omega)
 have hml:=bQ n n f
 refine ax Tryz.func25 rfl (by kernel_rfl) ?_;rw[Tryz.ntmps25]
 (refine aa [] fun K hK=>?_;simp(disch:=omega) only[kc,ab,Nat.reduceAdd,ci,List.replicate,ac,Value.oneCell'];apply hK)
 (refine ae (aa [⟨1,_,_,_,c1⟩] fun K hK=>?_);simp(disch:=omega) only[kc,ci,ar.a,ab,Nat.reduceAdd,ai,aN,aC,List.find?_cons,aD,aX,CallRes.plain,aF,aH,ap,noRefTV,am,aG,aE];apply hK)
 (refine aa [] fun K hK=>?_;simp(disch:=omega) only[kc,ab,ak,ac,Value.oneCell',ah,bA];apply hK)
 refine af rfl (fun h=>by simp at h) (fun _=>aq ?_)
 show bT _ _ _ _
 (refine ae (aa [⟨1,_,_,_,c2⟩] fun K hK=>?_);simp(disch:=omega) only[kc,ci,ar.a,ab,Nat.reduceAdd,ai,aN,aC,List.find?_cons,aD,aX,CallRes.plain,aF,aH,ap,noRefTV,am,aG,aE,bW,ak,dc];apply hK)
 refine af rfl (fun h=>by simp at h) (fun _=>aq ?_)
 show bT _ _ _ _
 (refine aa [⟨1,_,_,_,c3⟩] fun K hK=>?_;simp(disch:=omega) only[kc,ci,ar.a,ab,Nat.reduceAdd,ai,aN,aC,List.find?_cons,aD,aX,CallRes.plain,List.isEmpty_cons,aF,aH,ap,Bool.not_false,noRefTV,am,Bool.or_false,aG,aE,dm];apply hK)
 (refine aa [⟨2,_,_,_,c4⟩] fun K hK=>?_;simp(disch:=omega) only[kc,ar.a,ab,Nat.reduceAdd,aw,au,aZ,aR,hml,ai,aN,aC,List.find?_cons,aD,aX,CallRes.plain,List.isEmpty_cons,aF,aH,ap,Bool.not_false,noRefTV,am,Bool.or_false,aG,aE,dm,aJ,Nat.reduceEqDiff,aV,ak];apply hK)
 refine bD (G:=KE n f h T) (fun g=>⟨[jk,jk,jk,jk,jk,jk,ci (cd n n g.f),ci (cd n n g.t),jk,jk,jk,jk,jk,jk,jk,jk,jk,jk,jk,jk,jk,jk,jk,jk,jk,jk,jk,jk,jk,jk,jk,jk,jk,jk,jk,jk,jk,jk,jk,jk,jk,jk,jk,jk,jk,jk,jk,jk,jk],Hm []⟩) (fun g=>IB n g.f g.s) ⟨f,km,0,0,hst,hr⟩ ?_ ?_
 ·refine(aj (tm:=[jk,jk,jk,jk,jk,jk,.one (.sl 22 0 0 n),.one (.sl 26 0 0 n),jk,jk,jk,jk,jk,jk,jk,jk,jk,jk,jk,jk,jk,jk,jk,jk,jk,jk,jk,jk,jk,jk,jk,jk,jk,jk,jk,jk,jk,jk,jk,jk,jk,jk,jk,jk,jk,jk,jk,jk,jk]) (l:=[(22,gV 22 n n f),(26,gV 26 n n km)]) ⟨gM 0 22 n n _,gM 0 26 n n _,trivial⟩ (by simp[b9,bo,bj])).trans ((cQ 22 (jJ rfl)).trans ((aj (tm:=[jk,jk,jk,jk,jk,jk,ci (cd n n f),.one (.sl 26 0 0 n),jk,jk,jk,jk,jk,jk,jk,jk,jk,jk,jk,jk,jk,jk,jk,jk,jk,jk,jk,jk,jk,jk,jk,jk,jk,jk,jk,jk,jk,jk,jk,jk,jk,jk,jk,jk,jk,jk,jk,jk,jk]) (l:=[(26,gV 26 n n km)]) ⟨rfl,trivial⟩ (by
   simp[b9,bo,bj]
   exact⟨(IA (H:=Hm [(22,gV 22 n n f),(26,gV 26 n n km)]) (d:=22) (n:=n) (c:=n) (f:=f) rfl).symm,rfl⟩)).trans ((cQ 26 (jJ rfl)).trans (aj trivial ?_))))
  simp[b9,bo,bj]
  exact⟨rfl,(IA (H:=Hm [(26,gV 26 n n km)]) (d:=26) (n:=n) (c:=n) (f:=km) rfl).symm⟩
 ·rintro⟨g,t,s,adds,hI,hrc⟩
  simp only
  have cs:=JJ n g hn1 hn hI.dfn.pos (fun i j hi hj=>(hI.szf hn hi hj).mono (by omega))
  cases hc:scanF g n with
  |none=>
   obtain⟨rfl,rfl⟩:g=h/\t=T:=by
    cases hrc with
    |done _ _ _=>exact⟨rfl,rfl⟩
    |step _ _ _ _ c hc' _=>rw[hc]at hc';cases hc'
   have hes:=pF hn1 hn hred
   have ct:=Dz n n g hn1 (by omega) hn1 (by omega) (fun i j hi hj=>by have:=hes i hi j hj;exact⟨by omega,by omega⟩)
   rw[hc]at cs
   refine aI ?_
   (refine aa [⟨1,_,_,_,cs⟩] fun K hK=>?_;simp(disch:=omega) only[kc,ci,JT,ar.a,ab,Nat.reduceAdd,Hm,ai,aN,aC,List.find?_cons,aD,aX,CallRes.plain,aF,aH,ap,noRefTV,am,aG,aE,aV,ak];apply hK)
   (refine ae (aa [] fun K hK=>?_);simp(disch:=omega) only[kc,ab,bW,ak,dc,Bool.not_false];apply hK)
   refine af rfl (fun _=>?_) (fun h=>by simp at h)
   (refine aa [⟨1,_,_,_,ct⟩] fun K hK=>?_;simp(disch:=omega) only[kc,ci,ar.a,ab,Nat.reduceAdd,ai,aN,aC,List.find?_cons,aD,aX,CallRes.plain,aF,aH,ap,noRefTV,am,aG,aE,aV,ak];apply hK)
   (refine aa [] fun K hK=>?_;simp(disch:=omega) only[kc,ab,Nat.reduceAdd,ac,Value.oneCell'];apply hK)
   (refine ay ⟨.inr rfl,aO rfl ?_ rfl⟩;simp(disch:=omega) only[bE,Tryz.results25,cY,aP,List.getElem?_cons_succ,List.getElem?_cons_zero,Option.bind_some,bX,Option.map_some])
  |some c=>
   have hrc':Rch n (KK g c) (im n t (Iy g c)) h T:=by
    cases hrc with
    |done _ _ hc'=>rw[hc]at hc';cases hc'
    |step _ _ _ _ c' hc' hr'=>
     rw[hc]at hc'
     injection hc' with hc'
     subst hc'
     exact hr'
   rw[hc]at cs
   have hch:=CO hI hn hc
   have ha:=hI.adds_le hn
   have cc:=qi n g (Iy g c) hn1 (by omega) (fun i j hi hj=>(hI.szf hn hi hj).mono (by omega)) (fun i j hi hj=>(hch i j hi hj).mono (by omega))
   rw[Jd g hc]at cc
   have cp:=pw n n n t (Iy g c) hn1 (by omega) hn1 (by omega) hn1 (by omega) (fun i j hi hj=>(hI.szt i j hi hj).mono (by omega)) (fun i j hi hj=>(hch i j hi hj).mono (by omega))
   refine aI ?_
   (refine aa [⟨1,_,_,_,cs⟩] fun K hK=>?_;simp(disch:=omega) only[kc,ci,JT,ar.a,ab,Nat.reduceAdd,Hm,ai,aN,aC,List.find?_cons,aD,aX,CallRes.plain,aF,aH,ap,noRefTV,am,aG,aE,aV,ak];apply hK)
   (refine ae (aa [] fun K hK=>?_);simp(disch:=omega) only[kc,ab,bW,ak,dc];apply hK)
   refine af rfl (fun h=>by simp at h) (fun _=>aq ?_)
   show bT _ _ _ _
   ((refine aU [⟨2,_,_,_,cc⟩,⟨5,_,_,_,cp⟩] [] (by simp) fun K hK=>?_);simp(disch:=omega) only[kc,ci,ar.a,ab,Nat.reduceAdd,ai,aN,aC,List.find?_cons,aD,aX,CallRes.plain,aF,aH,ap,noRefTV,am,aG,aE,Nat.reduceBEq];apply hK)
   cases c with
   |add i j=>
    refine⟨⟨_,_,s,adds+1,(hI.add hn hc).1,hrc'⟩,hI.mu_add hn hc,aj trivial ?_⟩
    simp[b9,bo,bj];exact⟨rfl,rfl⟩
   |swp m=>
    refine⟨⟨_,_,s+1,adds,hI.swap hn hc,hrc'⟩,hI.mu_swap hn hc,aj trivial ?_⟩
    simp[b9,bo,bj];exact⟨rfl,rfl⟩
theorem vF {f:Nat->Nat->Int} (h0: ∀a b,a≠b->f a b=0) (h1: ∀a,0<f a a): ∀k,(0<dk f k/\ ∀t,t<k->0<dk f (t+1))/\ ∀a b,k<=a->k<=b->bk f k a b=dk f k*f a b
 |0=>⟨⟨by rw[fB];omega,fun t ht=>by omega⟩,fun a b _ _=>by rw[fA,fB,Int.one_mul]⟩
 |k+1=>by
  obtain⟨⟨p0,p1⟩,p2⟩:=vF h0 h1 k
  have e:dk f (k+1)=dk f k*f k k:=by rw[dw,p2 k k (by omega) (by omega)]
  have hpos:0<dk f (k+1):=by rw[e];exact Int.mul_pos p0 (h1 k)
  refine⟨⟨hpos,fun t ht=>?_⟩,fun a b ha hb=>?_⟩
  ·by_cases et:t=k
   ·subst et;exact hpos
   ·exact p1 t (by omega)
  ·have s:=sylv f k (fun t ht=>by have:=p1 t ht;omega) a b
   rw[p2 a b (by omega) (by omega),p2 a k (by omega) (by omega),h0 a k (by omega),Int.mul_zero,Int.zero_mul,Int.sub_zero]at s
   refine Int.eq_of_mul_eq_mul_left (show dk f k≠0 by omega) ?_
   rw[s];exact Int.mul_left_comm _ _ _
theorem AO {f:Nat->Nat->Int} (h0: ∀a b,a≠b->f a b=0) (h1: ∀a,0<f a a) (h2: ∀a,f a a<=2): ∀k,dk f k<=2^k
 |0=>by rw[fB];decide
 |k+1=>by
  obtain⟨⟨p0,_⟩,p2⟩:=vF h0 h1 k
  rw[dw,p2 k k (by omega) (by omega),Int.pow_succ]
  have ih:=AO h0 h1 h2 k
  exact Int.mul_le_mul ih (h2 k) (Int.le_of_lt (h1 k)) (Int.le_trans (Int.le_of_lt p0) ih)
theorem D6 (L:List Int) (p n:Nat) (hn1:1<=n) (hn:n<=8):rr n (gR L p 2):=by
 have h0: ∀a b,a≠b->gR L p 2 a b=0:=fun a b h=>by unfold gR;rw[if_neg h]
 have h1: ∀a,0<gR L p 2 a a:=fun a=>by unfold gR;rw[if_pos rfl];omega
 have h2: ∀a,gR L p 2 a a<=2:=fun a=>by
  unfold gR
  rw[if_pos rfl]
  have:=iY (n:=2) L (j9 L p a) (by omega)
  omega
 have hpos: ∀k,0<dk (gR L p 2) (k+1):=fun k=>(vF h0 h1 (k+1)).1.1
 have hdet: ∀k,detF (k+1) (gR L p 2)=dk (gR L p 2) (k+1):=fun k=>qW fun t _=>by have:=hpos t;omega
 refine⟨fun a _ b _=>?_,fun k _=>by rw[hdet];exact hpos k,?_⟩
 ·by_cases e:a=b
  ·rw[e]
  ·rw[h0 a b e,h0 b a (Ne.symm e)]
 ·have e:=hdet (n-1)
  rw[show n-1+1=n by omega]at e
  rw[e]
  have h3:=AO h0 h1 h2 n
  have h4:(2:Int)^n<=2^8:=by
   have:=Nat.pow_le_pow_right (show 0<2 by omega) hn
   exact_mod_cast this
  have h5:(2:Int)^8=256:=by decide
  omega
theorem zu (kind:Nat) (L:List Int) (n:Nat) (hn1:1<=n) (hn:n<=8):rr n (oM kind L n)/\yF (oM kind L n):=by
 unfold oM
 split
 ·rename_i h;exact⟨h,Bu kind L n⟩
 ·exact⟨D6 L _ n hn1 hn,vE (by omega) (by omega)⟩
theorem IQ (dim kind:Nat) (L B:List Int) (most n:Nat) (hL:I8 L) (hdim:dim<=255) (hkind:kind<=255) (hm1:1<=most) (hm8:most<=8) (hn:n=1+dim%most):
  ∃h,qH h n/\CallC Tryz.prog 10 [tL dim kind L B,.raw (.int .i64 (most:Int))] ⟨[],ck (cd n n h)⟩:=by
 have hn1:1<=n:=by omega
 have hn8:n<=8:=by have:=Nat.mod_lt dim (show 0<most by omega);omega
 have c1:=IR dim kind L B most n hL hdim hkind hm1 hm8 hn
 obtain⟨hg,hb⟩:=zu kind L n hn1 hn8
 obtain⟨h,T,hr,c3⟩:=Dy n (oM kind L n) hn1 hn8 hb hg
 have c2:=Gk n n (oM kind L n) hn1 (by omega) hn1 (by omega) (fun i j _ _=>hb.i64 i j)
 refine⟨h,hr,?_⟩
 generalize oM kind L n=gg at*
 refine ax Tryz.func10 rfl (by kernel_rfl) ?_;rw[Tryz.ntmps10]
 (refine aa [] fun K hK=>?_;simp(disch:=omega) only[kc,ab,tL,Nat.reduceAdd,List.replicate,cf,aN,aC,cellsOf,isPure,bH,ac,Value.oneCell'];apply hK)
 (refine aa [⟨2,_,_,_,c1⟩,⟨3,_,_,_,c2⟩,⟨4,_,_,_,c3⟩] fun K hK=>?_;simp(disch:=omega) only[kc,tL,ck,ci,ar.a,ab,Nat.reduceAdd,au,aJ,aA,BI,yv,Nat.le_refl,ai,aN,aC,List.find?_cons,aD,aX,CallRes.plain,aF,aH,ap,isPure,noRefTV,am,aG,aE,Nat.reduceBEq,aV,ak];apply hK)
 (refine aa [] fun K hK=>?_;simp(disch:=omega) only[kc,ab];apply hK)
 (refine ay ⟨.inr rfl,aO rfl ?_ rfl⟩;simp(disch:=omega) only[bE,Tryz.results10,aP,List.getElem?_cons_succ,List.getElem?_cons_zero,ck])
abbrev Dq (l:List Int):TV:= .one (.p (.sl (ls f8 l)))
theorem IV {h:Nat->Nat->Int} {n:Nat} (hn1:1<=n) (hn:n<=8) (hr:qH h n):MI (cd n n h):=fun r hr' z hz=>by
 obtain⟨i,hi,rfl⟩:=List.mem_map.1 hr'
 obtain⟨j,hj,rfl⟩:=List.mem_map.1 hz
 have:=pF hn1 hn hr i (List.mem_range.1 hi) j (List.mem_range.1 hj)
 exact⟨by omega,by omega⟩
section
open Go.ChangeShapes Go.WideShapes Go.ChangeAt Go.RowKit
theorem Hx {w:World} {l:List Int} {A:Option Addr} {c:Nat} (hl:l.length<=c) (hm:l.length<=9223372036854775807) (h:RdI .i8 w A l):dy (fun _=>False) w (.sl (ls f8 l)) (.slice A l.length c):=by
 cases l with
 |nil=>exact dy.nil _ _
 |cons z0 l0=>
  obtain⟨b,off,rfl,hc⟩:=h (by simp)
  have h0:=hc 0 (.int .i8 z0) (by simp)
  have hb:b<w.heap.size:=kO h0
  have:=dy.sl (X:=fun _=>False) (w:=w) b off 1 c (ls f8 (z0::l0)) (fun i _=> .int .i8 ((z0::l0).getD i 0)) (fun h=>h) hb (fun e he=>by
   obtain⟨z,_,rfl⟩:=List.mem_map.1 he
   rfl) (by rw[aR];exact hl) (by rw[aR];exact hm) (fun i e j x he hx=>by
   rw[bG]at he
   obtain⟨z,hz,rfl⟩:=Option.map_eq_some_iff.1 he
   cases j with
   |succ j=>simp[f8]at hx
   |zero=>
    have:=hc i (.int .i8 z) (by rw[List.getElem?_map,hz];rfl)
    simp only[Nat.mul_one,Nat.add_zero,List.getD_eq_getElem?_getD,hz,Option.getD_some]
    exact this) (fun i e j x he hx=>by
   rw[bG]at he
   obtain⟨z,hz,rfl⟩:=Option.map_eq_some_iff.1 he
   cases j with
   |succ j=>simp[f8]at hx
   |zero=>
    simp[f8]at hx
    subst hx
    simp only[List.getD_eq_getElem?_getD,hz,Option.getD_some]
    exact dy.raw _ rfl)
  rw[aR]at this
  exact this
theorem n5 {H:Type} {enc:TypeId×Value->H} {P:Program} {W:World} {base:Nat} {held:Bool} {t e:TypeId} {n:Nat} {v:Value} {y:DataW H×List MemPlace}
  (ht:P.underlying t=some (.slice e)) (he:P.underlying e=some (.int .i8)) (hc:P.cellsOf e=1) (h:DataW.trod enc P W base (fun _=>true) held n t [v]=some y):
  ∃L:List Int,dy (fun _=>False) W (.sl (ls f8 L)) v/\I8 L:=by
 rcases DataW.trod_slice ht h with⟨hcs,_⟩|⟨x,l,c,_,_,_,_,hcs,_⟩
 ·simp at hcs
  subst hcs
  exact⟨[],dy.nil _ _,fun z hz=>by simp at hz⟩
 ·simp at hcs
  subst hcs
  obtain⟨zs,g1,g2,g3,g4,g5,_⟩:=xS (enc:=enc) (base:=base) (held:=held) (d:=y.1) (p:=y.2) ht he hc ⟨n,by simpa[Value.cells] using h⟩
  refine⟨zs,?_,fun z hz=>F0 (g5 z hz)⟩
  rw[g1]
  unfold maxLen at g3
  exact Hx (by omega) (by omega) g4
theorem sG {H:Type} {enc:TypeId×Value->H} {P:Program} {W:World} {base:Nat} {held:Bool} {t:TypeId} {n:Nat} {v:Value} {y:DataW H×List MemPlace}
  (ht:P.underlying t=some (.int .u8)) (h:DataW.trod enc P W base (fun _=>true) held n t [v]=some y): ∃m:Nat,v= .int .u8 (m:Int)/\m<=255:=by
 obtain⟨m,hv,_,hw⟩:=DataW.trod_int ht h
 have:=F4 hw
 refine⟨m.toNat,?_,by omega⟩
 simp at hv
 rw[hv]
 congr 1
 omega
theorem Kh {w:World} {d k:Nat} {L B:List Int} {v2 v3:Value} (h2:dy (fun _=>False) w (.sl (ls f8 L)) v2) (h3:dy (fun _=>False) w (.sl (ls f8 B)) v3):
  (tL d k L B).rel (fun _ _=>none) (fun _=>[]) (fun _=>False) w (.agg #[.int .u8 (d:Int),.int .u8 (k:Int),v2,v3]):=by
 refine⟨#[.int .u8 (d:Int),.int .u8 (k:Int),v2,v3],rfl,rfl,fun j x hx=>?_⟩
 match j,hx with
 |0,hx=>simp at hx;subst hx;exact⟨_,rfl,rfl,dy.raw _ rfl⟩
 |1,hx=>simp at hx;subst hx;exact⟨_,rfl,rfl,dy.raw _ rfl⟩
 |2,hx=>simp at hx;subst hx;exact⟨_,rfl,h2.one,h2⟩
 |3,hx=>simp at hx;subst hx;exact⟨_,rfl,h3.one,h3⟩
 |j+4,hx=>simp at hx
theorem J6 {w:World}: ∀{ts:List TV} {vs:List Value},ts.length=vs.length->(∀(j:Nat) t v,ts[j]?=some t->vs[j]?=some v->t.rel (fun _ _=>none) (fun _=>[]) (fun _=>False) w v)->
  ∀(j:Nat) t,ts[j]?=some t-> ∃v:Value,vs.toArray[j]?=some v/\t.rel (fun _ _=>none) (fun _=>[]) (fun _=>False) w v:=fun{ts vs} hl h j t hj=>by
 have hlt:=(List.getElem?_eq_some_iff.1 hj).1
 obtain⟨v,hv⟩: ∃v,vs[j]?=some v:=⟨_,List.getElem?_eq_getElem (by omega)⟩
 exact⟨v,by simpa using hv,h j t v hj hv⟩
end
theorem ir: ∀x:List Int,d6 x x=0
 |[]=>rfl
 |a::x=>by simp[d6,ir x]
theorem mG: ∀{x y:List Int},d6 x y=0->x=y
 |[],[],_=>rfl
 |[],_::_,h=>by simp[d6]at h
 |_::_,[],h=>by simp[d6]at h
 |a::x,b::y,h=>by
  unfold d6 at h
  split at h
  ·omega
  ·split at h
   ·omega
   ·rw[mG h,show a=b from by omega]
theorem kQ: ∀(x y:List Int),d6 x y= -1\/d6 x y=0\/d6 x y=1
 |[],[]=>by simp[d6]
 |[],_::_=>by simp[d6]
 |_::_,[]=>by simp[d6]
 |a::x,b::y=>by
  have:=kQ x y
  unfold d6
  split
  ·simp
  ·split
   ·simp
   ·exact this
theorem kh: ∀(x y:List Int),d6 y x= - d6 x y
 |[],[]=>by simp[d6]
 |[],_::_=>by simp[d6]
 |_::_,[]=>by simp[d6]
 |a::x,b::y=>by
  have:=kh x y
  unfold d6
  by_cases h1:a<b
  ·rw[if_pos h1,if_neg (by omega),if_pos h1];rfl
  ·by_cases h2:b<a
   ·rw[if_pos h2,if_neg h1,if_pos h2]
   ·rw[if_neg h2,if_neg h1,if_neg h1,if_neg h2,this]
theorem kR: ∀{x y z:List Int},d6 x y<0->d6 y z<0->d6 x z<0
 |[],[],_,h,_=>by simp[d6]at h
 |_::_,[],_,h,_=>by simp[d6]at h
 |[],_::_,[],_,h=>by simp[d6]at h
 |[],_::_,_::_,_,_=>by simp[d6]
 |_::_,_::_,[],_,h=>by simp[d6]at h
 |a::x,b::y,c::z,h1,h2=>by
  unfold d6 at h1 h2⊢
  by_cases p1:a<b
  ·by_cases p2:b<c
   ·rw[if_pos (by omega)];omega
   ·rw[if_neg p2]at h2
    by_cases p3:c<b
    ·rw[if_pos p3]at h2;omega
    ·rw[if_pos (by omega)];omega
  ·rw[if_neg p1]at h1
   by_cases p3:b<a
   ·rw[if_pos p3]at h1;omega
   ·rw[if_neg p3]at h1
    by_cases p2:b<c
    ·rw[if_pos (by omega)];omega
    ·rw[if_neg p2]at h2
     by_cases p4:c<b
     ·rw[if_pos p4]at h2;omega
     ·rw[if_neg p4]at h2
      rw[if_neg (by omega),if_neg (by omega)]
      exact kR h1 h2
theorem AI (k1:Int) (x:List Int) (k2:Int) (y:List Int):Cd k1 x k2 y=if k1<k2 then -1 else if k2<k1 then 1 else d6 x y:=by
 have hr:=kQ x y
 unfold Cd Gc Gc Gc nG
 by_cases h1:k1<k2
 ·simp[h1]
 ·by_cases h2:k2<k1
  ·simp[h1,h2]
  ·simp[h1,h2]
   intro h;exact h.symm
theorem vw {k1 k2:Int} {x y:List Int}:Cd k1 x k2 y<0↔k1<k2\/k1=k2/\d6 x y<0:=by
 rw[AI]
 by_cases h1:k1<k2
 ·rw[if_pos h1];omega
 ·by_cases h2:k2<k1
  ·rw[if_neg h1,if_pos h2];omega
  ·rw[if_neg h1,if_neg h2];omega
theorem Ce {k1 k2:Int} {x y:List Int}:Cd k1 x k2 y=0↔k1=k2/\x=y:=by
 rw[AI]
 by_cases h1:k1<k2
 ·rw[if_pos h1];omega
 ·by_cases h2:k2<k1
  ·rw[if_neg h1,if_pos h2];omega
  ·rw[if_neg h1,if_neg h2]
   constructor
   ·intro h;exact⟨by omega,mG h⟩
   ·rintro⟨_,rfl⟩;exact ir _
theorem sj {α:Type} (f:α->NItem) (x y:α):ltOf (fun a b=>ip (f a) (f b)) x y=true↔(f x).key<(f y).key\/(f x).key=(f y).key/\d6 (f x).vals (f y).vals<0:=by
 unfold ltOf ip
 rw[decide_eq_true_iff,vw]
theorem Kn {α:Type} (f:α->NItem):Sort.SWO (ltOf fun a b=>ip (f a) (f b)) where
 irrefl x:=by
  rw[<- Bool.not_eq_true,sj,ir];omega
 trans x y z h1 h2:=by
  rw[sj]at*
  rcases h1 with h1|⟨h1,h1'⟩<;>rcases h2 with h2|⟨h2,h2'⟩
  ·omega
  ·omega
  ·omega
  ·exact .inr ⟨by omega,kR h1' h2'⟩
 ntrans x y z h1 h2:=by
  rw[<- Bool.not_eq_true,sj]at*
  intro h3
  rcases h3 with h3|⟨h3,h3'⟩
  ·by_cases e1:(f x).key<(f y).key
   ·exact h1 (.inl e1)
   ·exact h2 (.inl (by omega))
  ·by_cases e1:(f x).key<(f y).key
   ·exact h1 (.inl e1)
   ·by_cases e2:(f y).key<(f z).key
    ·exact h2 (.inl e2)
    ·have q1: ¬d6 (f x).vals (f y).vals<0:=fun h=>h1 (.inr ⟨by omega,h⟩)
     have q2: ¬d6 (f y).vals (f z).vals<0:=fun h=>h2 (.inr ⟨by omega,h⟩)
     have a1:=kh (f x).vals (f y).vals
     have a2:=kh (f y).vals (f z).vals
     rcases kQ (f x).vals (f y).vals with r|r|r
     ·omega
     ·rw[mG r]at h3';exact q2 h3'
     ·rcases kQ (f y).vals (f z).vals with s|s|s
      ·omega
      ·rw[<- mG s]at h3';exact q1 h3'
      ·have:=kR (x:=(f z).vals) (y:=(f y).vals) (z:=(f x).vals) (by omega) (by omega)
       have a3:=kh (f x).vals (f z).vals
       omega
end Go.Proofs.YtpgghglbpcabkaaGreat
namespace Go.Proofs
open Go.Shelf
def Tryz.sortK_ren:Go.Shelf.Ren:=⟨fun|6=>79|15=>117|14=>116|28=>143|29=>144|20=>135|21=>136|22=>137|23=>138|24=>139|25=>140|26=>141|27=>142|46=>156|47=>157|48=>158|49=>159|50=>160|57=>164|n=>n,fun|22=>67|24=>74|25=>66|3=>3|39=>140|0=>0|53=>118|55=>88|4=>4|46=>153|45=>152|50=>120|5=>5|9=>9|66=>167|70=>171|76=>174|77=>175|n=>n,fun|n=>n⟩
theorem Tryz.sortK:Go.Proofs.SlLaysF0.n6 Tryz.prog Tryz.sortK_ren:={
 mixed:=by kernel_rfl
 f6:=⟨Tryz.f79.name,by decide,Tryz.func79.trans (congrArg some (by kernel_rfl))⟩
 f14:=⟨Tryz.f116.name,by decide,Tryz.func116.trans (congrArg some (by kernel_rfl))⟩
 f15:=Tryz.func117.trans (congrArg some (by kernel_rfl))
 f20:=⟨Tryz.f135.name,by decide,Tryz.func135.trans (congrArg some (by kernel_rfl))⟩
 f21:=⟨Tryz.f136.name,by decide,Tryz.func136.trans (congrArg some (by kernel_rfl))⟩
 f22:=⟨Tryz.f137.name,by decide,Tryz.func137.trans (congrArg some (by kernel_rfl))⟩
 f23:=⟨Tryz.f138.name,by decide,Tryz.func138.trans (congrArg some (by kernel_rfl))⟩
 f24:=⟨Tryz.f139.name,by decide,Tryz.func139.trans (congrArg some (by kernel_rfl))⟩
 f25:=⟨Tryz.f140.name,by decide,Tryz.func140.trans (congrArg some (by kernel_rfl))⟩
 f26:=⟨Tryz.f141.name,by decide,Tryz.func141.trans (congrArg some (by kernel_rfl))⟩
 f27:=⟨Tryz.f142.name,by decide,Tryz.func142.trans (congrArg some (by kernel_rfl))⟩
 f28:=Tryz.func143.trans (congrArg some (by kernel_rfl))
 f29:=Tryz.func144.trans (congrArg some (by kernel_rfl))
 f46:=⟨Tryz.f156.name,by decide,Tryz.func156.trans (congrArg some (by kernel_rfl))⟩
 f47:=Tryz.func157.trans (congrArg some (by kernel_rfl))
 f48:=Tryz.func158.trans (congrArg some (by kernel_rfl))
 f49:=⟨Tryz.f159.name,by decide,Tryz.func159.trans (congrArg some (by kernel_rfl))⟩
 f50:=⟨Tryz.f160.name,by decide,Tryz.func160.trans (congrArg some (by kernel_rfl))⟩
 f57:=⟨Tryz.f164.name,by decide,Tryz.func164.trans (congrArg some (by kernel_rfl))⟩
 t0:=Tryz.underlying0
 a0:=Tryz.isAgg0
 z0:=Tryz.sizeOf0
 v0:=Tryz.zeroValue0
 t3:=Tryz.underlying3
 a3:=Tryz.isAgg3
 z3:=Tryz.sizeOf3
 v3:=Tryz.zeroValue3
 t4:=Tryz.underlying4
 a4:=Tryz.isAgg4
 z4:=Tryz.sizeOf4
 v4:=Tryz.zeroValue4
 t5:=Tryz.underlying5
 a5:=Tryz.isAgg5
 z5:=Tryz.sizeOf5
 v5:=Tryz.zeroValue5
 t9:=Tryz.underlying9
 a9:=Tryz.isAgg9
 z9:=Tryz.sizeOf9
 v9:=Tryz.zeroValue9
 t22:=Tryz.underlying67
 a22:=Tryz.isAgg67
 z22:=Tryz.sizeOf67
 v22:=Tryz.zeroValue67
 t25:=Tryz.underlying66
 a25:=Tryz.isAgg66
 z25:=Tryz.sizeOf66
 v25:=Tryz.zeroValue66
 t39:=Tryz.underlying140
 a39:=Tryz.isAgg140
 z39:=Tryz.sizeOf140
 v39:=Tryz.zeroValue140
 t45:=Tryz.underlying152
 a45:=Tryz.isAgg152
 z45:=Tryz.sizeOf152
 v45:=Tryz.zeroValue152
 t46:=Tryz.underlying153
 a46:=Tryz.isAgg153
 z46:=Tryz.sizeOf153
 v46:=Tryz.zeroValue153
 t50:=Tryz.underlying120
 a50:=Tryz.isAgg120
 z50:=Tryz.sizeOf120
 v50:=Tryz.zeroValue120
 t53:=Tryz.underlying118
 a53:=Tryz.isAgg118
 z53:=Tryz.sizeOf118
 v53:=Tryz.zeroValue118
 t55:=Tryz.underlying88
 a55:=Tryz.isAgg88
 z55:=Tryz.sizeOf88
 v55:=Tryz.zeroValue88
 t66:=Tryz.underlying167
 a66:=Tryz.isAgg167
 z66:=Tryz.sizeOf167
 v66:=Tryz.zeroValue167
 t70:=Tryz.underlying171
 a70:=Tryz.isAgg171
 z70:=Tryz.sizeOf171
 v70:=Tryz.zeroValue171
 t76:=Tryz.underlying174
 a76:=Tryz.isAgg174
 z76:=Tryz.sizeOf174
 v76:=Tryz.zeroValue174
 t77:=Tryz.underlying175
 a77:=Tryz.isAgg175
 z77:=Tryz.sizeOf175
 v77:=Tryz.zeroValue175}
end Go.Proofs
namespace Go.Proofs.YtpgghglbpcabkaaGreat
open Go.RowKit
end Go.Proofs.YtpgghglbpcabkaaGreat
