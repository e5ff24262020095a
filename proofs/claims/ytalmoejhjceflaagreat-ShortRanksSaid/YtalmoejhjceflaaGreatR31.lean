/-
  Part 32 of a proof (walks and plain facts).
-/
import Derived.Test.YtalmoejhjceflaaGreatR30
set_option linter.all false
set_option maxRecDepth 100000
set_option maxHeartbeats 64000000
open Nat renaming reduceAdd → aa
open Nat renaming reduceEqDiff → ab
namespace Go.Proofs.YtalmoejhjceflaaGreat
open Go.RowKit Go.Proofs.Tryz
variable {n m j c:Nat} {b:FF}
theorem R4 {P:Program} {f:TypeId} {c z:Code} {Q:Exit->AS->List PV->Prop} {s S:AS} {g cs1:List PV} (m:dV P n f c (oX (fun j k=>bG j S/\k=cs1) Q) s g) (o:dV P n f z Q S cs1):dV P n f c (oX (dV P n f z Q) Q) s g:=m.mono fun e j k h=>by
 cases e with
 |normal=>
  obtain⟨l,rfl⟩:=h;exact dV.weak l o
 |_=>exact h
def lV (b:Nat) (L:List Int) (n:Nat):(Nat->Nat->Int)×Nat:=
 if b%8<4 then p9 L (gU L 0 6,kp L 0 n) n
 else if b%8=4 then(upd (jL false n n) 0 0 (jL false n n 0 0+(mV L 0 3:Int)),gI L 0)
 else if b%8=5 then(upd (jL true n n) (n-1) (n-1) (jL true n n (n-1) (n-1)+(mV L 0 2:Int)),gI L 0)
 else if b%8=6 then(gU L 0 9,kp L 0 n)
 else(gU L 0 1,kp L 0 n)
open Classical in
noncomputable def mQ (b:Nat) (L:List Int) (n:Nat):Nat->Nat->Int:=if GoodP n (lV b L n).1 then(lV b L n).1 else gU L (lV b L n).2 2
theorem th (f:FF) (i j:Nat) (v:Int) (a b:Nat):upd f i j v a b=v\/upd f i j v a b=f a b:=by
 grind [Q9,If]
def Fj (f:FF):Prop:= ∀a b,-9<=f a b/\f a b<=9
theorem Fj.i64 (h:Fj b) (a c:Nat):I64 (b a c):=by have:=h a c;exact⟨by omega,by omega⟩
theorem Fj.upd (h:Fj b) {i:Nat} {v:Int} (g: -9<=v) (l:v<=9):Fj (Go.Proofs.YtalmoejhjceflaaGreat.upd b i n v):=fun a c=>by
 rcases th b i n v a c with e|e
 ·omega
 rw[e];exact h a c
theorem F5 {L:List Int} {a:Nat} (b:0<m) (c:m<=9):Fj (gU L a m):=fun i j=>by
 unfold gU;split
 ·have:=mf (n:=m) L (kp L a i) b;omega
 omega
theorem Zc (x:Int): -2<=Int.tmod x 3/\Int.tmod x 3<=2:=by
 grind
theorem Ou {L:List Int} {i:Nat} {s:(Nat->Nat->Int)×Nat} (h:Fj s.1): ∀k,Fj (Ry L i s k).1
 |0=>h
 |k+1=>by
  have:=Zc (L.getD (Ry L i s k).2 0);exact((Ou h k).upd (by omega) (by omega)).upd (by omega) (by omega)
theorem Ot {L:List Int} {s:(Nat->Nat->Int)×Nat} (h:Fj s.1): ∀i,Fj (p9 L s i).1
 |0=>h
 |i+1=>Ou (Ot h i) i
theorem pw (c:Bool) (n:Nat): ∀i a b,-1<=jL c n i a b/\jL c n i a b<=2
 |0,_,_=>by simp[jL]
 |i+1,a,b=>by
  have h:=pw c n i;have u: ∀(f:FF) (i j:Nat) (v:Int),(∀a b,-1<=f a b/\f a b<=2)-> -1<=v/\v<=2-> ∀a b,-1<=upd f i j v a b/\upd f i j v a b<=2:=fun f i j v e g a b=>by
   grind [th]
  unfold jL;grind
theorem Ju (c:Nat) (L:List Int) (n:Nat):Fj (lV c L n).1:=by
 have f:=mf (n:=3) L 0 (by omega);have e:=mf (n:=2) L 0 (by omega);have g:=pw false n n 0 0;have h:=pw true n n (n-1) (n-1);unfold lV;split
 ·grind [Ot,F5]
 split
 ·exact Fj.upd (fun a b=>by have:=pw false n n a b;omega) (by omega) (by omega)
 split
 ·exact Fj.upd (fun a b=>by have:=pw true n n a b;omega) (by omega) (by omega)
 grind [F5]
theorem TE (b:Nat) (L:List Int) (n:Nat):(lV b L n).2<=L.length:=by
 grind [lV,Gx,vK,sS]
abbrev tL (c b:Nat) (L B:List Int):TV:= .agg [.p (.raw (.int .u8 (c:Int))),.p (.raw (.int .u8 (b:Int))),.p (.sl (ls f8 L)),.p (.sl (ls f8 B))]
theorem VC (o e:Nat) (L B:List Int) (g n:Nat) (w:I8 L) (P:o<=255) (N:e<=255) (V:1<=g) (W:g<=8) (hn:n=1+o%g):
  CallC prog 35 [tL o e L B,.raw (.int .i64 (g:Int))] ⟨[],cq (mat n n (mQ e L n))⟩:=by
 have C:1<=n:=by omega
 have q:n<=8:=by have:=aaQ o (show 0<g by omega);omega
 have Q:Int.tmod (o:Int) (g:Int)=((o%g:Nat):Int):=(Int.ofNat_tmod o g).symm;have R:Int.tmod (e:Int) 8=((e%8:Nat):Int):=(Int.ofNat_tmod e 8).symm;have T:1+((o%g:Nat):Int)=(n:Int):=by omega
 refine aA func35 rfl ntmps35 (pf @tL.eq_1 (k:=ar (k:=CJ 11 (cs:=Hk L 0) rfl fun b=>?_)));refine dV.weak (aj (tm:=(jk::rN g::.one (.ptr 2 0 0 0)::jk::jk::cw b::j16 (j16 (j16 (j16 (j4 ([]))))))) (l:=[(2,[⟨24,4,[[.p (.raw (.int .u8 (o:Int))),.p (.raw (.int .u8 (e:Int))),.p (.sl (ls f8 L)),.p (.sl (ls f8 B))]]⟩])]) ⟨rfl,trivial⟩ (by simp[wk,sN,i5])) ?_;refine iQ (aH @cw.eq_1 (aH Q T)) (k:=cQ (k:=b6 (iQ R (k:=?_))));have t:=Ju e L n;have u:=TE e L n;refine R4 (S:=⟨(j4 (jk::cw b::rN n::cq (mat n n (lV e L n).1)::j16 (j16 (j16 (j16 (jk::jk::[])))))),Hm []⟩) (cs1:=Hk L (lV e L n).2) ?_ ?_
 ·have U:=aaQ e (show 0<8 by omega);have F:e%8<4->lV e L n=p9 L (gU L 0 6,kp L 0 n) n:=fun h=>by grind [lV]
  have D:=KZ b L 0 n w (by omega) q;have J:=IC n false q;have M:=IC n true q;have y:=Av b L 0 3 w (by omega) (by omega) (by omega);have x:=Av b L 0 2 w (by omega) (by omega) (by omega);have A:=mq b L 0 n 9 w (by omega) q (by omega) (by omega);have z:=mq b L 0 n 1 w (by omega) q (by omega) (by omega);rw[show((3:Nat):Int)=3 from rfl]at y;rw[show((2:Nat):Int)=2 from rfl]at x;rw[show((9:Nat):Int)=9 from rfl]at A;rw[show((1:Nat):Int)=1 from rfl]at z;have q3:=mf (n:=3) L 0 (by omega);have q2:=mf (n:=2) L 0 (by omega);have r1:=pw false n n 0 0;have r2:=pw true n n (n-1) (n-1);have Z:((n:Int)-1).toNat=n-1:=by omega
  have x1:=bU (n:=n) (i:=0) 35 n (by omega);have x2:=d9 (n:=n) n (jL false n n) (i:=0) (by omega);have x3:=aw (m:=n) (jL false n n 0) (j:=0) (by omega);have y1:=bU (n:=n) (i:=n-1) 48 n (by omega);have y2:=d9 (n:=n) n (jL true n n) (i:=n-1) (by omega);have y3:=aw (m:=n) (jL true n n (n-1)) (j:=n-1) (by omega);have v:e%8=0\/e%8=1\/e%8=2\/e%8=3\/e%8=4\/e%8=5\/e%8=6\/e%8=7:=by omega
  rcases v with s|s|s|s|s|s|s|s
  ·have r:e%8=0:=by omega
   rw[r,show((0:Nat):Int)=0 from rfl];refine cA (b6 (cQ (k:=gW rfl (iP (gW rfl ?_)))));refine fJ 2 D [] [] (by kernel_rfl) (by rfl) (by rfl) fun _ K=>?_;simp only[kd,cw,aa,ab];apply K
   rw[F (by omega)];refine⟨(aj (tm:=(j4 (jk::cw b::rN n::.one (.sl 31 0 0 n)::j16 (j16 (j16 (j16 (jk::jk::[]))))))) (l:=[(31,l4 31 n n ((p9 L (gU L 0 6,kp L 0 n) n).1))]) ⟨dR 0 31 n n _,trivial⟩ (by simp[wk])).trans ((bD 31 (fB rfl)).trans (aj (tm:=(j4 (jk::cw b::rN n::cq (mat n n ((p9 L (gU L 0 6,kp L 0 n) n).1))::j16 (j16 (j16 (j16 (jk::jk::[]))))))) (l:=[]) trivial (by
    simp[wk];exact⟨rfl,rfl,(wy (H:=Hm [(31,l4 31 n n ((p9 L (gU L 0 6,kp L 0 n) n).1))]) (d:=31) (n:=n) (c:=n) (f:=(p9 L (gU L 0 6,kp L 0 n) n).1) rfl).symm⟩))),rfl⟩
  ·have r:e%8=1:=by omega
   rw[r,show((1:Nat):Int)=1 from rfl];refine cA (b6 (cQ (k:=ck rfl (cQ (k:=gW rfl (iP (gW rfl ?_)))))));refine fJ 2 D [] [] (by kernel_rfl) (by rfl) (by rfl) fun _ K=>?_;simp only[kd,cw,aa,ab];apply K
   rw[F (by omega)];refine⟨(aj (tm:=(j4 (jk::cw b::rN n::.one (.sl 31 0 0 n)::j16 (j16 (j16 (j16 (jk::jk::[]))))))) (l:=[(31,l4 31 n n ((p9 L (gU L 0 6,kp L 0 n) n).1))]) ⟨dR 0 31 n n _,trivial⟩ (by simp[wk])).trans ((bD 31 (fB rfl)).trans (aj (tm:=(j4 (jk::cw b::rN n::cq (mat n n ((p9 L (gU L 0 6,kp L 0 n) n).1))::j16 (j16 (j16 (j16 (jk::jk::[]))))))) (l:=[]) trivial (by
    simp[wk];exact⟨rfl,rfl,(wy (H:=Hm [(31,l4 31 n n ((p9 L (gU L 0 6,kp L 0 n) n).1))]) (d:=31) (n:=n) (c:=n) (f:=(p9 L (gU L 0 6,kp L 0 n) n).1) rfl).symm⟩))),rfl⟩
  ·have r:e%8=2:=by omega
   rw[r,show((2:Nat):Int)=2 from rfl];refine cA (b6 (cQ (k:=ck rfl (cQ (k:=ck rfl (cQ (k:=gW rfl (iP (gW rfl ?_)))))))));refine fJ 2 D [] [] (by kernel_rfl) (by rfl) (by rfl) fun _ K=>?_;simp only[kd,cw,aa,ab];apply K
   rw[F (by omega)];refine⟨(aj (tm:=(j4 (jk::cw b::rN n::.one (.sl 31 0 0 n)::j16 (j16 (j16 (j16 (jk::jk::[]))))))) (l:=[(31,l4 31 n n ((p9 L (gU L 0 6,kp L 0 n) n).1))]) ⟨dR 0 31 n n _,trivial⟩ (by simp[wk])).trans ((bD 31 (fB rfl)).trans (aj (tm:=(j4 (jk::cw b::rN n::cq (mat n n ((p9 L (gU L 0 6,kp L 0 n) n).1))::j16 (j16 (j16 (j16 (jk::jk::[]))))))) (l:=[]) trivial (by
    simp[wk];exact⟨rfl,rfl,(wy (H:=Hm [(31,l4 31 n n ((p9 L (gU L 0 6,kp L 0 n) n).1))]) (d:=31) (n:=n) (c:=n) (f:=(p9 L (gU L 0 6,kp L 0 n) n).1) rfl).symm⟩))),rfl⟩
  ·have r:e%8=3:=by omega
   rw[r,show((3:Nat):Int)=3 from rfl];refine cA (b6 (cQ (k:=ck rfl (cQ (k:=ck rfl (cQ (k:=ck rfl (ss (k:=gW rfl ?_)))))))));refine fJ 2 D [] [] (by kernel_rfl) (by rfl) (by rfl) fun _ K=>?_;simp only[kd,cw,aa,ab];apply K
   rw[F (by omega)];refine⟨(aj (tm:=(j4 (jk::cw b::rN n::.one (.sl 31 0 0 n)::j16 (j16 (j16 (j16 (jk::jk::[]))))))) (l:=[(31,l4 31 n n ((p9 L (gU L 0 6,kp L 0 n) n).1))]) ⟨dR 0 31 n n _,trivial⟩ (by simp[wk])).trans ((bD 31 (fB rfl)).trans (aj (tm:=(j4 (jk::cw b::rN n::cq (mat n n ((p9 L (gU L 0 6,kp L 0 n) n).1))::j16 (j16 (j16 (j16 (jk::jk::[]))))))) (l:=[]) trivial (by
    simp[wk];exact⟨rfl,rfl,(wy (H:=Hm [(31,l4 31 n n ((p9 L (gU L 0 6,kp L 0 n) n).1))]) (d:=31) (n:=n) (c:=n) (f:=(p9 L (gU L 0 6,kp L 0 n) n).1) rfl).symm⟩))),rfl⟩
  ·have r:e%8=4:=by omega
   rw[r,show((4:Nat):Int)=4 from rfl];refine cA (b6 (cQ (k:=ck rfl (cQ (k:=ck rfl (cQ (k:=ck rfl (ss (k:=ck rfl (cQ (k:=gW rfl (UU [⟨1,_,_,_,J⟩] (k:=?_)))))))))))));refine dV.weak (aj (tm:=(j4 (jk::cw b::rN n::.one (.sl 35 0 0 n)::j16 (j16 (j16 (j16 (jk::jk::[]))))))) (l:=[(35,l4 35 n n (jL false n n))]) ⟨dR 0 35 n n _,trivial⟩ (by simp[wk])) ?_;refine jZ b8 6 y [] [] (by kernel_rfl) (by kernel_rfl) (by rfl) (by rfl) fun _ K=>?_;simp(disch:=omega) only[kd,cw,aa,Int.reduceToNat,x1,x2,x3,aK,gZ];apply K
   rw[show lV e L n=(upd (jL false n n) 0 0 (jL false n n 0 0+(mV L 0 3:Int)),gI L 0) by grind [lV]];refine⟨(aj (tm:=(j4 (jk::cw b::rN n::.one (.sl 35 0 0 n)::j16 (j16 (j16 (j16 (jk::jk::[]))))))) (l:=[(35,l4 35 n n (upd (jL false n n) 0 0 (jL false n n 0 0+(mV L 0 3:Int))))]) ⟨rfl,trivial⟩ (by simp[wk])).trans ((bD 35 (fB rfl)).trans (aj (tm:=(j4 (jk::cw b::rN n::cq (mat n n (upd (jL false n n) 0 0 (jL false n n 0 0+(mV L 0 3:Int))))::j16 (j16 (j16 (j16 (jk::jk::[]))))))) (l:=[]) trivial (by
    simp[wk];exact⟨rfl,rfl,(wy (H:=Hm [(35,l4 35 n n (upd (jL false n n) 0 0 (jL false n n 0 0+(mV L 0 3:Int))))]) (d:=35) (n:=n) (c:=n) (f:=upd (jL false n n) 0 0 (jL false n n 0 0+(mV L 0 3:Int))) rfl).symm⟩))),rfl⟩
  ·have r:e%8=5:=by omega
   rw[r,show((5:Nat):Int)=5 from rfl];refine cA (b6 (cQ (k:=ck rfl (cQ (k:=ck rfl (cQ (k:=ck rfl (ss (k:=ck rfl (cQ (k:=ck rfl (cQ (k:=gW rfl (UU [⟨1,_,_,_,M⟩] (k:=?_)))))))))))))));refine dV.weak (aj (tm:=(j4 (jk::cw b::rN n::.one (.sl 48 0 0 n)::j16 (j16 (j16 (j16 (jk::jk::[]))))))) (l:=[(48,l4 48 n n (jL true n n))]) ⟨dR 0 48 n n _,trivial⟩ (by simp[wk])) ?_;refine jZ b8 10 x [] [] (by kernel_rfl) (by kernel_rfl) (by rfl) (by rfl) fun _ K=>?_;simp(disch:=omega) only[kd,cw,aa,aK,Z,y1,y2,y3,gZ];apply K
   rw[show lV e L n=(upd (jL true n n) (n-1) (n-1) (jL true n n (n-1) (n-1)+(mV L 0 2:Int)),gI L 0) by grind [lV]];refine⟨(aj (tm:=(j4 (jk::cw b::rN n::.one (.sl 48 0 0 n)::j16 (j16 (j16 (j16 (jk::jk::[]))))))) (l:=[(48,l4 48 n n (upd (jL true n n) (n-1) (n-1) (jL true n n (n-1) (n-1)+(mV L 0 2:Int))))]) ⟨rfl,trivial⟩ (by simp[wk])).trans ((bD 48 (fB rfl)).trans (aj (tm:=(j4 (jk::cw b::rN n::cq (mat n n (upd (jL true n n) (n-1) (n-1) (jL true n n (n-1) (n-1)+(mV L 0 2:Int))))::j16 (j16 (j16 (j16 (jk::jk::[]))))))) (l:=[]) trivial (by
    simp[wk];exact⟨rfl,rfl,(wy (H:=Hm [(48,l4 48 n n (upd (jL true n n) (n-1) (n-1) (jL true n n (n-1) (n-1)+(mV L 0 2:Int))))]) (d:=48) (n:=n) (c:=n) (f:=upd (jL true n n) (n-1) (n-1) (jL true n n (n-1) (n-1)+(mV L 0 2:Int))) rfl).symm⟩))),rfl⟩
  ·have r:e%8=6:=by omega
   rw[r,show((6:Nat):Int)=6 from rfl];refine cA (b6 (cQ (k:=ck rfl (cQ (k:=ck rfl (cQ (k:=ck rfl (ss (k:=ck rfl (cQ (k:=ck rfl (cQ (k:=ck rfl (cQ (k:=gW rfl ?_)))))))))))))));refine fJ 2 A [] [] (by kernel_rfl) (by rfl) (by rfl) fun _ K=>?_;simp only[kd,cw,aa,ab];apply K
   rw[show lV e L n=(gU L 0 9,kp L 0 n) by grind [lV]];refine⟨(aj (tm:=(j4 (jk::cw b::rN n::.one (.sl 66 0 0 n)::j16 (j16 (j16 (j16 (jk::jk::[]))))))) (l:=[(66,l4 66 n n (gU L 0 9))]) ⟨dR 0 66 n n _,trivial⟩ (by simp[wk])).trans ((bD 66 (fB rfl)).trans (aj (tm:=(j4 (jk::cw b::rN n::cq (mat n n (gU L 0 9))::j16 (j16 (j16 (j16 (jk::jk::[]))))))) (l:=[]) trivial (by
    simp[wk];exact⟨rfl,rfl,(wy (H:=Hm [(66,l4 66 n n (gU L 0 9))]) (d:=66) (n:=n) (c:=n) (f:=gU L 0 9) rfl).symm⟩))),rfl⟩
  have r:e%8=7:=by omega
  rw[r,show((7:Nat):Int)=7 from rfl];refine cA (b6 (cQ (k:=ck rfl (cQ (k:=ck rfl (cQ (k:=ck rfl (ss (k:=ck rfl (cQ (k:=ck rfl (cQ (k:=ck rfl (cQ (k:=ck rfl ?_)))))))))))))));refine fJ 2 z [] [] (by kernel_rfl) (by rfl) (by rfl) fun _ K=>?_;simp only[kd,cw,aa,ab];apply K
  rw[show lV e L n=(gU L 0 1,kp L 0 n) by grind [lV]];refine⟨(aj (tm:=(j4 (jk::cw b::rN n::.one (.sl 23 0 0 n)::j16 (j16 (j16 (j16 (jk::jk::[]))))))) (l:=[(23,l4 23 n n (gU L 0 1))]) ⟨dR 0 23 n n _,trivial⟩ (by simp[wk])).trans ((bD 23 (fB rfl)).trans (aj (tm:=(j4 (jk::cw b::rN n::cq (mat n n (gU L 0 1))::j16 (j16 (j16 (j16 (jk::jk::[]))))))) (l:=[]) trivial (by
   simp[wk];exact⟨rfl,rfl,(wy (H:=Hm [(23,l4 23 n n (gU L 0 1))]) (d:=23) (n:=n) (c:=n) (f:=gU L 0 1) rfl).symm⟩))),rfl⟩
 generalize X:lV e L n=Y at*
 obtain⟨f,p⟩:=Y;simp only at t u⊢;have E:mQ e L n=(open Classical in if GoodP n f then f else gU L p 2):=by grind [mQ]
 by_cases G:GoodP n f
 ·rw[if_pos G]at E;rw[E];have I:=Oh n f C q t.i64 true (by simp[G]);refine b6 (Nn [⟨1,_,_,_,I⟩] @cw.eq_1 (k:=ck rfl (iP (cQ (k:=?_)))));refine ky ⟨.inr rfl,bW rfl ?_ rfl⟩;simp(disch:=omega) only[kd,results35,cq]
 rw[if_neg G]at E;rw[E];have I:=Oh n f C q t.i64 false (by simp[G]);have O:=mq b L p n 2 w u q (by omega) (by omega);rw[show((2:Nat):Int)=2 from rfl]at O;refine b6 (Nn [⟨1,_,_,_,I⟩] @cw.eq_1 (k:=gW rfl ?_));refine si 2 O [] [] (by kernel_rfl) (by rfl) (by rfl) fun _ K=>?_;simp only[kd,cw,aa];apply K
 refine dV.weak (aj (tm:=(j4 (.one (.sl 72 0 0 n)::j16 (j16 (j16 (j16 (j4 (jk::[])))))))) (l:=[(72,l4 72 n n (gU L p 2))]) ⟨dR 0 72 n n _,trivial⟩ (by simp[wk])) ?_;refine dV.weak ((bD 72 (fB rfl)).trans (aj (tm:=(j4 (cq (mat n n (gU L p 2))::j16 (j16 (j16 (j16 (j4 (jk::[])))))))) (l:=[]) trivial (by
  simp[wk];grind [wy,Hm]))) ?_
 refine ky ⟨.inr rfl,bW rfl ?_ rfl⟩;simp(disch:=omega) only[kd,results35,cq]
theorem MU (n c:Nat) (f:FF) (m:1<=n) (B:n<=16) (p:1<=c) (x:c<=16) (y: ∀i j:Nat,i<n->j<c->I64 (f i j)):
  CallC prog 58 [da (mat n c f)] ⟨l4 0 n c f,WH n true⟩:=by
 have u:=qc (mat n c f);rw[ig (mA f m B p x),aT,i6 f m]at u;refine aA func58 rfl ntmps58 (aC (k:=bK [⟨1,_,_,_,u⟩] (k:=ai (bC (k:=aq rfl (ak (ar (k:=ai (bC (k:=?_))))))))));refine aB (G:=jx n) (fun g=>⟨(da (mat n c f)::j4 (.raw (.int .i64 (c:Int))::jk::.one (.sl 21 0 0 n)::j4 (j4 (j4 (jk::jk::jk::rN n::rN g.i::j16 (j16 (j4 (jk::jk::[])))))))),Hm [(21,kI 21 n c g.i (part f g.i 0))]⟩) (fun g=>n-g.i) ⟨0,by omega⟩ ?_ ?_
 ·refine aj ⟨?_,trivial⟩ ?_
  ·rfl
  simp[wk]
 rintro⟨i,z⟩;simp only;by_cases o:i<n
 ·have C:=bF c f o;have D:=Ba (i:=i) (n:=n) 21 c o;have J:=nH (i:=i) (n:=n) 21 c z;have E:=aT i c (part f i 0);have F:=uE (i:=i) (n:=n) (c:=c) 21 (part f i 0) o (fun j A=>by grind [part]);have w:=wF (i:=i+1) (k:=i) (n:=n) 21 c (by omega);have K:=nH (i:=i+1) (n:=n) 21 c (by omega);have L:=d9 (n:=i+1) c (part f i 0) (i:=i) (by omega);refine ar (k:=be rfl (ai (am (bC (k:=aL (aH D (aH @aaL (aH @acf E))) (k:=?_))))));refine bf.weak (aj (tm:=(da (mat n c f)::j4 (.raw (.int .i64 (c:Int))::jk::.one (.sl 21 0 0 n)::rN i::j4 (j4 (j4 (jk::jk::rN n::rN i::j16 (j16 (j4 (jk::jk::[]))))))))) (l:=[(21,kI 21 n c (i+1) (part f i 0))]) ⟨?_,trivial⟩ (by simp[wk])) ?_
  ·first|exact F|rfl
  refine aL w (k:=?_);refine aB (G:=jx c) (fun g=>⟨(da (mat n c f)::j4 (.raw (.int .i64 (c:Int))::jk::.one (.sl 21 0 0 n)::rN i::j4 (j4 (j4 (jk::jk::rN n::rN i::j4 (j4 (jk::jk::jk::rN c::rN g.i::j16 (j4 (j4 (jk::[])))))))))),Hm [(21,kI 21 n c (i+1) (part f i g.i))]⟩) (fun g=>c-g.i) ⟨0,by omega⟩ ?_ ?_
  ·refine aj ⟨rfl,trivial⟩ ?_;simp[wk]
  rintro⟨j,A⟩;simp only;by_cases h:j<c
  ·have s:=aw (f i) h;have v:=y i j o h;have t:=RH (f i j) (v.sz (by omega));rw[jF,if_pos (show -9223372036854775808<=f i j/\f i j<=9223372036854775807 from v)]at t;have H:=d9 (n:=i+1) c (part f i j) (i:=i) (by omega);have I:=aw (part f i j i) h;refine ar (k:=be rfl (ai (am (bC (k:=cO [⟨7,_,_,_,t⟩] (aH C s) (k:=ai (bC (k:=aq rfl (ak (eK (aH w (aH H (aH I @gZ))) (k:=bS (k:=?_))))))))))));refine⟨⟨j+1,by omega⟩,by grind,aj ⟨?_,trivial⟩ ?_⟩
   ·show _::_=_::_;rw[gG fun a b _ _=>iF f i j a b]
   simp[wk]
  have r:j=c:=by omega
  subst r;refine ar (k:=bv rfl (bS (k:=?_)));refine⟨⟨i+1,by omega⟩,by grind,aj ⟨?_,trivial⟩ ?_⟩
  ·grind [gG,kf]
  simp[wk]
 have q:i=n:=by omega
 subst q;refine ar (k:=bv rfl ?_);show bf _ _ _ _;have e:kI 21 i c i (part f i 0)=l4 21 i c f:=by
  grind [gG,ke]
 rw[e];refine bC (k:=?_);refine aW ⟨.inr rfl,W7 (d:=21) rfl ?_ (by decide)⟩;simp(disch:=omega) only[kd,results58]
structure Zy (N B Z n:Nat) (f0 h T:FF) where
 f:Nat->Nat->Int
 t:Nat->Nat->Int
 s:Nat
 adds:Nat
 inv:RedI N B Z n f0 f t s adds
 rch:Rch n f t h T
theorem Gs (a b:Nat):Sz (idF a b) 1:=by grind [idF,n4]
theorem TG {o:Nat} {f0 t h T:FF} (x:Fc n m j c) (u:1<=o) (v:o<=n) (y:dk f0 o<=10000) (z:Rch o b t h T): ∀s p,RedI n m c o f0 b t s p->RedR h o:=by
 induction z with
 |done b t r=>exact fun s p q=>q.red u y r
 |step b t h T e r _ w=>
  intro s p q;cases e with
  |add i g=>exact w _ _ (q.add x v r).1
  |swp l=>exact w _ _ (q.swap x v r)
theorem Li {q:Nat} {f0 t:FF} {s r:Nat} (v:Fc n m j c) (h:RedI n m c q f0 b t s r) (y:q<=n) {l:Ch} (x:scanF b q=some l): ∀a g,a<q->g<q->Sz (UX b l a g) 500:=fun a g z A=>by
 obtain⟨w,u⟩:=iH x;cases l with
 |add i o=>
  have u:i<q:=u;show Sz (Rt i o (cF b i o) a g) 500;rcases th idF o i (cF b i o) a g with e|e
  ·unfold Rt;rw[e];exact(h.szc v y u w.1).mono (by have:=v.z4;omega)
  unfold Rt;rw[e];exact(Gs a g).mono (by omega)
 |swp p=>exact(Gs _ g).mono (by omega)
theorem Wn (f:FF) {c:Ch} (o:scanF f n=some c):mat n n (F3 n f (UX f c))=mat n n (ZK f c):=by
 obtain⟨e,l⟩:=iH o;refine gQ fun a b g h=>?_
 cases c with
 |add i j=>exact Sr (by have:=e.1;omega) (by have:i<n:=l;have:=e.1;omega) f a b g h
 |swp m=>exact Wo l f a b g h
structure Ke (N B Z n:Nat) (f:FF):Prop where
 good:GoodP n f
 sz: ∀i j,i<n->j<n->Sz (f i j) 400
 st:RedI N B Z n f f idF 0 0
theorem Ke.dk {N B S Z n:Nat} {f:FF} (h:Fc N B S Z) (k:Ke N B Z n f) (b:1<=n):dk f n<=10000:=by
 obtain⟨g,c,e⟩:=k.good;have:=(BD c (n-1) (by omega)).2;grind
theorem Ke.ex {e:Nat} (l:Fc n m j c) (k:Ke n m c e b) (g:1<=e) (o:e<=n): ∃h T,RedR h e/\Rch e b idF h T:=by
 obtain⟨h,T,p⟩:=pQ (f0:=b) l o _ b idF 0 0 (aar _) k.st;exact⟨h,T,TG l g o (k.dk l g) p 0 0 k.st,p⟩
theorem Vf (g:1<=n) (l:n<=8) (h:Fj b) (e:GoodP n b):Ke 8 bB 41 n b:=
 ⟨e,fun i j _ _=>(h.i64 i j).sz (by omega),RedI.start g l e.1 e.2.1 (fun a c=>by have:=h a c;omega) (fun a c _ _=>Gs a c)⟩
theorem Kf (y:Fc n m j c) (r:Nat) (f h T:FF) (u:1<=r) (z:r<=n) (k:Ke n m c r f) (L:RedR h r) (hr:Rch r f idF h T):
  CallC prog 24 [da (mat r r f)] ⟨l4 0 r r h,.tup [(false,[.sl 0 0 0 r]),(false,[.p (.sl (ls (fR fZ) (mat r r T)))]),(false,[.p (.raw (.int .i64 0))])]⟩:=by
 have E:r<=8:=aap z y.n8;have R:=k.st;obtain⟨hs,hp,hd⟩:=k.good;have F: ∀i o,i<r->o<r->Sz (f i o) 1024:=fun i o v w=>(k.sz i o v w).mono (by omega)
 obtain⟨e,he,W⟩:=o9 r r f u (by omega) u (by omega) F;have O:e=0:=he.2 ⟨rfl,E,hs,hp⟩;subst O;have U:=Ew r f u (by omega) F;rw[decide_eq_true hd]at U;have X:=Fl r r f (by omega) u (by omega) (fun i o v w=>(F i o v w).mono (by omega));have Y:=vi r u (by omega);have Q:=aT r r f;refine aA func24 rfl ntmps24 (aC (k:=ai (bK [⟨1,_,_,_,W⟩] (k:=ar (k:=aq rfl (ak (ai (bK [⟨1,_,_,_,U⟩] (k:=aq rfl (ak (bK [⟨1,_,_,_,X⟩] (k:=im [⟨2,_,_,_,Y⟩] Q (k:=?_)))))))))))));refine aB (G:=Zy n m c r f h T) (fun g=>⟨(j4 (jk::jk::da (mat r r g.f)::da (mat r r g.t)::j16 (j16 (j4 (j4 (jk::[])))))),Hm []⟩) (fun g=>Va j r g.f g.s) ⟨f,idF,0,0,R,hr⟩ ?_ ?_
 ·refine(aj (tm:=(j4 (jk::jk::.one (.sl 22 0 0 r)::.one (.sl 26 0 0 r)::j16 (j16 (j4 (j4 (jk::[]))))))) (l:=[(22,gu 22 r r f),(26,gu 26 r r idF)]) ⟨fk 0 22 r r _,fk 0 26 r r _,trivial⟩ (by simp[wk])).trans ((bD 22 (iK rfl)).trans ((aj (tm:=(j4 (jk::jk::da (mat r r f)::.one (.sl 26 0 0 r)::j16 (j16 (j4 (j4 (jk::[]))))))) (l:=[(26,gu 26 r r idF)]) ⟨rfl,trivial⟩ (by
   simp[wk];exact⟨(Rv (H:=Hm [(22,gu 22 r r f),(26,gu 26 r r idF)]) (d:=22) (n:=r) (c:=r) (f:=f) rfl).symm,rfl⟩)).trans ((bD 26 (iK rfl)).trans (aj trivial ?_))))
  simp[wk];exact⟨rfl,(Rv (H:=Hm [(26,gu 26 r r idF)]) (d:=26) (n:=r) (c:=r) (f:=idF) rfl).symm⟩
 rintro⟨g,t,s,A,x,K⟩;simp only;have M:=Xr r g u E x.dfn.pos (fun i o v w=>(x.szf y z v w).mono (by omega));cases C:scanF g r with
 |none=>
  obtain⟨rfl,rfl⟩:g=h/\t=T:=by
   cases K with
   |done _ _ _=>simp
   |step _ _ _ _ b I _=>grind
  have P:=sH u E L;have ct:=MU r r g u (by omega) u (by omega) (fun i o v w=>by have:=P i v o w;exact⟨by omega,by omega⟩);rw[C]at M;refine am (im [⟨1,_,_,_,M⟩] @Yb.eq_1 (k:=ai (bC (k:=ay rfl (im [⟨1,_,_,_,ct⟩] @WH.eq_1 (k:=?_))))));refine bf.weak (aj (tm:=(j4 (jk::jk::jk::da (mat r r t)::jk::jk::jk::.one (.sl 38 0 0 r)::j16 (j16 (j4 (jk::[])))))) (l:=[(38,l4 38 r r g)]) ⟨dR 0 38 _ _ _,trivial⟩ (by simp[wk])) ?_;refine bC (k:=?_);refine aW ⟨.inr rfl,_,bG.refl _,?_⟩;refine⟨.tup [(false,[.sl 38 0 0 r]),(false,[.p (.sl (ls (fR fZ) (mat r r t)))]),(false,[.p (.raw (.int .i64 0))])],38,?_,xO (by simp[selfTV,bs]) (by decide),(dR 38 0 _ _ _).symm,rfl⟩;simp(disch:=omega) only[kd,results24]
 |some b=>
  have D:Rch r (ZK g b) (js r t (UX g b)) h T:=by
   cases K with
   |done _ _ I=>grind
   |step _ _ _ _ c' I aa=>
    grind
  rw[C]at M;have J:=Li y x z C;have ha:=x.adds_le y z;have V:=Ct r g (UX g b) u (by omega) (fun i o v w=>(x.szf y z v w).mono (by omega)) (fun i o v w=>(J i o v w).mono (by omega));rw[Wn g C]at V;have cp:=r6 r r r t (UX g b) u (by omega) u (by omega) u (by omega) (fun i o v w=>(x.szt i o v w).mono (aap (Nat.add_le_add_left (aas (c+4) ha) 1) (by have:=y.sz;omega))) (fun i o v w=>(J i o v w).mono (by omega));refine am (im [⟨1,_,_,_,M⟩] @Yb.eq_1 (k:=ai (bC (k:=aq rfl (ak (Yw [⟨2,_,_,_,V⟩,⟨5,_,_,_,cp⟩] (k:=?_)))))));cases b with
  |add i o=>
   refine⟨⟨_,_,s,A+1,(x.add y z C).1,D⟩,x.mu_add y z C,aj trivial ?_⟩;simp[wk];exact⟨rfl,rfl⟩
  |swp q=>
   refine⟨⟨_,_,s+1,A,x.swap y z C,D⟩,x.mu_swap y z C,aj trivial ?_⟩;simp[wk];exact⟨rfl,rfl⟩
theorem A0 {f:FF} (g: ∀a b,a≠b->f a b=0) (l: ∀a,0<f a a): ∀k,(0<dk f k/\ ∀t,t<k->0<dk f (t+1))/\ ∀a b,k<=a->k<=b->bk f k a b=dk f k*f a b
 |0=>⟨⟨by rw[cu];omega,fun t h=>by omega⟩,fun a b _ _=>by grind [dc,cu]⟩
 |k+1=>by
  obtain⟨⟨o,p⟩,j⟩:=A0 g l k;have e:dk f (k+1)=dk f k*f k k:=by grind [cd]
  have c:0<dk f (k+1):=by simp_all[ad0]
  refine⟨⟨c,fun t h=>?_⟩,fun a b m n=>?_⟩
  ·grind
  have s:=sylv f k (fun t h=>by grind) a b;rw[j a b (by omega) (by omega),j a k (by omega) (by omega),g a k (by omega),ab3,acB,Int.sub_zero]at s;grind [Int.eq_of_mul_eq_mul_left,Int.mul_left_comm]
theorem IN {f:FF} (e: ∀a b,a≠b->f a b=0) (c: ∀a,0<f a a) (g: ∀a,f a a<=2): ∀k,dk f k<=2^k
 |0=>by rw[cu];decide
 |k+1=>by
  obtain⟨⟨j,_⟩,l⟩:=A0 e c k;rw[cd,l k k (by omega) (by omega),Int.pow_succ];have h:=IN e c g k;exact aa7 h (g k) (abT (c k)) (Int.le_trans (abT j) h)
theorem NM (L:List Int) (p n:Nat) (o:1<=n) (m:n<=8):GoodP n (gU L p 2):=by
 have f: ∀a b,a≠b->gU L p 2 a b=0:=fun a b h=>by grind [gU]
 have g: ∀a,0<gU L p 2 a a:=fun a=>by grind [gU]
 have l: ∀a,gU L p 2 a a<=2:=fun a=>by
  unfold gU;rw[if_pos rfl];have:=mf (n:=2) L (kp L p a) (by omega);omega
 have j: ∀k,0<dk (gU L p 2) (k+1):=fun k=>(A0 f g (k+1)).1.1
 have c: ∀k,detF (k+1) (gU L p 2)=dk (gU L p 2) (k+1):=fun k=>uC fun t _=>by grind
 refine⟨fun a _ b _=>?_,fun k _=>by grind,?_⟩
 ·grind
 have e:=c (n-1);rw[show n-1+1=n by omega]at e;rw[e];have q:=IN f g l n;have r:(2:Int)^n<=2^8:=by
  have:=aaJ (show 0<2 by omega) m;grind
 omega
theorem wz (b:Nat) (L:List Int) (n:Nat) (c:1<=n) (e:n<=8):GoodP n (mQ b L n)/\Fj (mQ b L n):=by
 grind [mQ,Ju,NM,F5]
theorem RG (e b:Nat) (L B:List Int) (c n:Nat) (h T:FF) (v:I8 L) (o:e<=255) (g:b<=255) (p:1<=c) (q:c<=8) (y:n=1+e%c) (z:RedR h n) (w:Rch n (mQ b L n) idF h T):
  CallC prog 14 [tL e b L B,.raw (.int .i64 (c:Int))] ⟨l4 0 n n h,.one (.sl 0 0 0 n)⟩:=by
 have f:1<=n:=by omega
 have m:n<=8:=by have:=aaQ e (show 0<c by omega);omega
 have s:=VC e b L B c n v o g p q y;obtain⟨x,r⟩:=wz b L n f m;have u:=Kf ZI n (mQ b L n) h T f m (Vf f m r x) z w;have t:=Yq n n (mQ b L n) f (by omega) f (by omega) (fun i j _ _=>r.i64 i j);generalize mQ b L n=A at*
 refine aA func14 rfl ntmps14 (pf @tL.eq_1 (k:=im [⟨2,_,_,_,s⟩,⟨3,_,_,_,t⟩,⟨4,_,_,_,u⟩] @tL.eq_1 (k:=?_)));refine bf.weak (aj (tm:=(j4 (jk::.one (.sl 13 0 0 n)::j4 (j4 (j4 ([])))))) (l:=[(13,l4 13 n n h)]) ⟨dR 0 13 _ _ _,trivial⟩ (by simp[wk])) ?_;refine bC (k:=?_);refine aW ⟨.inr rfl,_,bG.refl _,?_⟩;refine⟨.one (.sl 13 0 0 n),13,?_,rfl,(dR 13 0 _ _ _).symm,rfl⟩;simp(disch:=omega) only[kd,results14]
theorem RF (e c:Nat) (L B:List Int) (b n:Nat) (h T:FF) (m:I8 L) (g:e<=255) (f:c<=255) (j:1<=b) (l:b<=8) (p:n=1+e%b) (q:RedR h n) (o:Rch n (mQ c L n) idF h T):
  CallC prog 14 [tL e c L B,.raw (.int .i64 (b:Int))] ⟨[],cq (mat n n h)⟩:=
 (RG e c L B b n h T m g f j l p q o).fzI
theorem VB (b:Nat) (L:List Int) {n:Nat} (c:1<=n) (e:n<=8): ∃h T,RedR h n/\Rch n (mQ b L n) idF h T:=by
 obtain⟨g,f⟩:=wz b L n c e;exact(Vf c e f g).ex ZI c e
theorem VA (e c:Nat) (L B:List Int) (b n:Nat) (p:I8 L) (g:e<=255) (f:c<=255) (j:1<=b) (l:b<=8) (q:n=1+e%b):
  ∃h,RedR h n/\CallC prog 14 [tL e c L B,.raw (.int .i64 (b:Int))] ⟨[],cq (mat n n h)⟩:=by
 obtain⟨h,T,m,o⟩:=VB c L (n:=n) (by omega) (by have:=aaQ e (show 0<b by omega);omega);grind [RF]
def Vs (L:List Int):Nat->Int:=fun i=>L.getD (kp L 0 i) 0
abbrev Zp (l:List Int):TV:= .one (.p (.sl (ls f8 l)))
def UC (L:List Int) (i:Nat):Nat->Int:=fun j=>if j<i then Vs L j else 0
theorem Rc (L:List Int) (i j:Nat):(if j=i then Vs L i else UC L i j)=UC L (i+1) j:=by
 grind [UC]
theorem S0 (l:List Int) (k:Nat) (v:Int):(lc fI l).set k [AV.p (.raw (.int .i64 v))]=lc fI (l.set k v):=by simp_all[lc,fI]
theorem PQ (n:Nat) (L:List Int):List.replicate n [AV.p (.raw (.int .i64 0))]=lc fI (aN n (UC L 0)):=by
 apply aaC;grind [wL,aw,UC,fI,aI]
theorem MV (L:List Int) (n:Nat) (h:I8 L) (q:n<=16):CallC prog 25 [Zp L,.raw (.int .i64 (n:Int))] ⟨[⟨2,1,lc fI (aN n (Vs L))⟩],.one (.sl 0 0 0 n)⟩:=by
 refine aA func25 rfl ntmps25 (pf @Zp.eq_1 (k:=ar (k:=CJ 10 (cs:=Hk L 0) rfl fun b=>?_)));refine dV.weak (aj (tm:=(jk::rN n::jk::jk::jk::cw b::j16 (jk::jk::jk::[]))) (l:=[]) trivial (by simp[wk,sN,i5])) ?_;refine iQ (aH @cw.eq_1 (PQ n L)) (k:=b6 (cQ (k:=?_)));refine iO (G:=jx n) (fun g=>⟨(j4 (jk::cw b::.one (.sl 12 0 0 n)::j4 (jk::jk::jk::rN n::rN g.i::j4 (j4 (jk::[]))))),Hm [(12,[⟨2,1,lc fI (aN n (UC L g.i))⟩])]⟩) (fun g=>Hk L (kp L 0 g.i)) (fun g=>n-g.i) ⟨0,by omega⟩ ?_ rfl ?_
 ·refine aj ⟨?_,trivial⟩ ?_
  ·rfl
  simp[wk]
 rintro⟨i,o⟩;simp only;by_cases m:i<n
 ·have e:=Fq b L (kp L 0 i) h (vK (by omega) i);rw[show L.getD (kp L 0 i) 0=Vs L i from rfl]at e;have f:=aw (UC L i) m;refine iQ @cw.eq_1 (k:=pe rfl (b6 (cA (cQ (k:=?_)))));refine fJ 3 e [] [] (by kernel_rfl) (by rfl) (by rfl) fun _ K=>?_;simp(disch:=omega) only[kd,cw,aa,f,S0,kj];apply K
  show dV _ _ _ _ _ _ _;refine ss (k:=?_);refine⟨⟨i+1,by omega⟩,by grind,aj ⟨?_,trivial⟩ ?_,rfl⟩
  ·show[_]=[_];grind [dm,Rc]
  simp[wk]
 have c:i=n:=by omega
 subst c;refine iQ @cw.eq_1 (k:=pb rfl ?_);show dV _ _ _ _ _ _ _;rw[dm (g:=UC L i) (g':=Vs L) fun j p=>by grind [UC]];refine cQ (k:=?_);refine ky ⟨.inr rfl,_,bG.refl _,?_⟩;refine⟨.one (.sl 12 0 0 i),12,?_,rfl,?_,rfl⟩
 ·simp(disch:=omega) only[kd,results25]
 grind [renO,iC]
theorem VG (c:1<=n) (l:n<=8) (m:RedR b n):MI (mat n n b):=fun r e z o=>by
 obtain⟨i,f,rfl⟩:=aau.1 e;obtain⟨j,g,rfl⟩:=aau.1 o;have:=sH c l m i (aa9.1 f) j (aa9.1 g);exact⟨by omega,by omega⟩
end Go.Proofs.YtalmoejhjceflaaGreat
