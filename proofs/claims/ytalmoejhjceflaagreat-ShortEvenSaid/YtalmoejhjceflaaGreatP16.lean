/-
  Part 17 of a proof (walks and plain facts).
-/
import Derived.Test.YtalmoejhjceflaaGreatP15
import Derived.Lib.SmallJoins
set_option linter.all false
set_option maxRecDepth 100000
set_option maxHeartbeats 64000000
open Nat renaming reduceAdd → aa
open Nat renaming reduceEqDiff → ab
namespace Go.Proofs.YtalmoejhjceflaaGreat
open Go.RowKit Go.Proofs.Tryz
variable {b c:Nat->Int} {n m j p:Nat} {x:Int} {e:FF} {f:List Int} {P:Program} {w:World} {g:TypeId} {h:Value} {s:AS}
theorem Pk {c z:Code} {Q:Exit->AS->List PV->Prop} {S:AS} {f cs1:List PV} (m:dG P n g c (wQ (fun j k=>bv j S/\k=cs1) Q) s f) (o:dG P n g z Q S cs1):dG P n g c (wQ (dG P n g z Q) Q) s f:=m.mono fun e j k h=>by
 cases e with
 |normal=>
  obtain⟨l,rfl⟩:=h;exact dG.weak l o
 |_=>exact h
def li (b:Nat) (L:List Int) (n:Nat):(Nat->Nat->Int)×Nat:=
 if b%8<4 then pg L (gJ L 0 6,kH L 0 n) n
 else if b%8=4 then(upd (ju false n n) 0 0 (ju false n n 0 0+(mv L 0 3:Int)),gh L 0)
 else if b%8=5 then(upd (ju true n n) (n-1) (n-1) (ju true n n (n-1) (n-1)+(mv L 0 2:Int)),gh L 0)
 else if b%8=6 then(gJ L 0 9,kH L 0 n)
 else(gJ L 0 1,kH L 0 n)
open Classical in
noncomputable def mr (b:Nat) (L:List Int) (n:Nat):Nat->Nat->Int:=if GoodP n (li b L n).1 then(li b L n).1 else gJ L (li b L n).2 2
theorem rY (f:FF) (i j:Nat) (v:Int) (a b:Nat):upd f i j v a b=v\/upd f i j v a b=f a b:=by
 grind [OD,F0]
def DI (f:FF):Prop:= ∀a b,-9<=f a b/\f a b<=9
theorem DI.i64 (h:DI e) (a b:Nat):I64 (e a b):=by have:=h a b;exact⟨by omega,by omega⟩
theorem DI.upd (h:DI e) {i:Nat} (g: -9<=x) (l:x<=9):DI (Go.Proofs.YtalmoejhjceflaaGreat.upd e i n x):=fun a b=>by
 rcases rY e i n x a b with c|c
 ·omega
 rw[c];exact h a b
theorem Eo {a:Nat} (b:0<m) (c:m<=9):DI (gJ f a m):=fun i j=>by
 unfold gJ;split
 ·have:=lN (n:=m) f (kH f a i) b;omega
 omega
theorem V9 (x:Int): -2<=Int.tmod x 3/\Int.tmod x 3<=2:=by
 grind
theorem Me {L:List Int} {i:Nat} {s:(Nat->Nat->Int)×Nat} (h:DI s.1): ∀k,DI (OT L i s k).1
 |0=>h
 |k+1=>by
  have:=V9 (L.getD (OT L i s k).2 0);exact((Me h k).upd (by omega) (by omega)).upd (by omega) (by omega)
theorem Md {L:List Int} {s:(Nat->Nat->Int)×Nat} (h:DI s.1): ∀i,DI (pg L s i).1
 |0=>h
 |i+1=>Me (Md h i) i
theorem oJ (c:Bool) (n:Nat): ∀i a b,-1<=ju c n i a b/\ju c n i a b<=2
 |0,_,_=>by simp[ju]
 |i+1,a,b=>by
  have h:=oJ c n i;have u: ∀(f:FF) (i j:Nat) (v:Int),(∀a b,-1<=f a b/\f a b<=2)-> -1<=v/\v<=2-> ∀a b,-1<=upd f i j v a b/\upd f i j v a b<=2:=fun f i j v e g a b=>by
   grind [rY]
  unfold ju;grind
theorem Hh (c:Nat) (L:List Int) (n:Nat):DI (li c L n).1:=by
 have f:=lN (n:=3) L 0 (by omega);have e:=lN (n:=2) L 0 (by omega);have g:=oJ false n n 0 0;have h:=oJ true n n (n-1) (n-1);unfold li;split
 ·grind [Md,Eo]
 split
 ·exact DI.upd (fun a b=>by have:=oJ false n n a b;omega) (by omega) (by omega)
 split
 ·exact DI.upd (fun a b=>by have:=oJ true n n a b;omega) (by omega) (by omega)
 grind [Eo]
theorem QL (b:Nat) (L:List Int) (n:Nat):(li b L n).2<=L.length:=by
 grind [li,EP,zo,rG]
abbrev tL (c b:Nat) (L B:List Int):TV:= .agg [.p (.raw (.int .u8 (c:Int))),.p (.raw (.int .u8 (b:Int))),.p (.sl (ls f8 L)),.p (.sl (ls f8 B))]
theorem ST (o e:Nat) (L B:List Int) (g n:Nat) (w:I8 L) (P:o<=255) (N:e<=255) (V:1<=g) (W:g<=8) (hn:n=1+o%g):
  CallC prog 35 [tL o e L B,.raw (.int .i64 (g:Int))] ⟨[],dq (mat n n (mr e L n))⟩:=by
 have C:1<=n:=by omega
 have q:n<=8:=by have:=Yk o (show 0<g by omega);omega
 have Q:Int.tmod (o:Int) (g:Int)=((o%g:Nat):Int):=(Int.ofNat_tmod o g).symm;have R:Int.tmod (e:Int) 8=((e%8:Nat):Int):=(Int.ofNat_tmod e 8).symm;have T:1+((o%g:Nat):Int)=(n:Int):=by omega
 refine aB func35 rfl ntmps35 (uz @tL.eq_1 (k:=ar (k:=KV 11 (cs:=J3 L 0) rfl fun b=>?_)));refine dG.weak (aj (tm:=(jk::rN g::.one (.ptr 2 0 0 0)::jk::jk::cH b::j16 (j16 (j16 (j16 (j4 ([]))))))) (l:=[(2,[⟨24,4,[[.p (.raw (.int .u8 (o:Int))),.p (.raw (.int .u8 (e:Int))),.p (.sl (ls f8 L)),.p (.sl (ls f8 B))]]⟩])]) ⟨rfl,trivial⟩ (by simp[wk,rB,jb])) ?_;refine j5 (aE @cH.eq_1 (aE Q T)) (k:=cB (k:=bZ (j5 R (k:=?_))));have t:=Hh e L n;have u:=QL e L n;refine Pk (S:=⟨(j4 (jk::cH b::rN n::dq (mat n n (li e L n).1)::j16 (j16 (j16 (j16 (jk::jk::[])))))),Hm []⟩) (cs1:=J3 L (li e L n).2) ?_ ?_
 ·have U:=Yk e (show 0<8 by omega);have F:e%8<4->li e L n=pg L (gJ L 0 6,kH L 0 n) n:=fun h=>by grind [li]
  have D:=IY b L 0 n w (by omega) q;have J:=Gp n false q;have M:=Gp n true q;have y:=y7 b L 0 3 w (by omega) (by omega) (by omega);have x:=y7 b L 0 2 w (by omega) (by omega) (by omega);have A:=lT b L 0 n 9 w (by omega) q (by omega) (by omega);have z:=lT b L 0 n 1 w (by omega) q (by omega) (by omega);rw[show((3:Nat):Int)=3 from rfl]at y;rw[show((2:Nat):Int)=2 from rfl]at x;rw[show((9:Nat):Int)=9 from rfl]at A;rw[show((1:Nat):Int)=1 from rfl]at z;have q3:=lN (n:=3) L 0 (by omega);have q2:=lN (n:=2) L 0 (by omega);have r1:=oJ false n n 0 0;have r2:=oJ true n n (n-1) (n-1);have Z:((n:Int)-1).toNat=n-1:=by omega
  have x1:=cd (n:=n) (i:=0) 35 n (by omega);have x2:=dO (n:=n) n (ju false n n) (i:=0) (by omega);have x3:=az (m:=n) (ju false n n 0) (j:=0) (by omega);have y1:=cd (n:=n) (i:=n-1) 48 n (by omega);have y2:=dO (n:=n) n (ju true n n) (i:=n-1) (by omega);have y3:=az (m:=n) (ju true n n (n-1)) (j:=n-1) (by omega);have v:e%8=0\/e%8=1\/e%8=2\/e%8=3\/e%8=4\/e%8=5\/e%8=6\/e%8=7:=by omega
  rcases v with s|s|s|s|s|s|s|s
  ·have r:e%8=0:=by omega
   rw[r,show((0:Nat):Int)=0 from rfl];refine cz (bZ (cB (k:=gO rfl (iG (gO rfl ?_)))));refine gu 2 D [] [] (by kernel_rfl) (by rfl) (by rfl) fun _ K=>?_;simp only[kd,cH,aa,ab];apply K
   rw[F (by omega)];refine⟨(aj (tm:=(j4 (jk::cH b::rN n::.one (.sl 31 0 0 n)::j16 (j16 (j16 (j16 (jk::jk::[]))))))) (l:=[(31,l8 31 n n ((pg L (gJ L 0 6,kH L 0 n) n).1))]) ⟨dA 0 31 n n _,trivial⟩ (by simp[wk])).trans ((bF 31 (ff rfl)).trans (aj (tm:=(j4 (jk::cH b::rN n::dq (mat n n ((pg L (gJ L 0 6,kH L 0 n) n).1))::j16 (j16 (j16 (j16 (jk::jk::[]))))))) (l:=[]) trivial (by
    simp[wk];exact⟨rfl,rfl,(vi (H:=Hm [(31,l8 31 n n ((pg L (gJ L 0 6,kH L 0 n) n).1))]) (d:=31) (n:=n) (c:=n) (f:=(pg L (gJ L 0 6,kH L 0 n) n).1) rfl).symm⟩))),rfl⟩
  ·have r:e%8=1:=by omega
   rw[r,show((1:Nat):Int)=1 from rfl];refine cz (bZ (cB (k:=cb rfl (cB (k:=gO rfl (iG (gO rfl ?_)))))));refine gu 2 D [] [] (by kernel_rfl) (by rfl) (by rfl) fun _ K=>?_;simp only[kd,cH,aa,ab];apply K
   rw[F (by omega)];refine⟨(aj (tm:=(j4 (jk::cH b::rN n::.one (.sl 31 0 0 n)::j16 (j16 (j16 (j16 (jk::jk::[]))))))) (l:=[(31,l8 31 n n ((pg L (gJ L 0 6,kH L 0 n) n).1))]) ⟨dA 0 31 n n _,trivial⟩ (by simp[wk])).trans ((bF 31 (ff rfl)).trans (aj (tm:=(j4 (jk::cH b::rN n::dq (mat n n ((pg L (gJ L 0 6,kH L 0 n) n).1))::j16 (j16 (j16 (j16 (jk::jk::[]))))))) (l:=[]) trivial (by
    simp[wk];exact⟨rfl,rfl,(vi (H:=Hm [(31,l8 31 n n ((pg L (gJ L 0 6,kH L 0 n) n).1))]) (d:=31) (n:=n) (c:=n) (f:=(pg L (gJ L 0 6,kH L 0 n) n).1) rfl).symm⟩))),rfl⟩
  ·have r:e%8=2:=by omega
   rw[r,show((2:Nat):Int)=2 from rfl];refine cz (bZ (cB (k:=cb rfl (cB (k:=cb rfl (cB (k:=gO rfl (iG (gO rfl ?_)))))))));refine gu 2 D [] [] (by kernel_rfl) (by rfl) (by rfl) fun _ K=>?_;simp only[kd,cH,aa,ab];apply K
   rw[F (by omega)];refine⟨(aj (tm:=(j4 (jk::cH b::rN n::.one (.sl 31 0 0 n)::j16 (j16 (j16 (j16 (jk::jk::[]))))))) (l:=[(31,l8 31 n n ((pg L (gJ L 0 6,kH L 0 n) n).1))]) ⟨dA 0 31 n n _,trivial⟩ (by simp[wk])).trans ((bF 31 (ff rfl)).trans (aj (tm:=(j4 (jk::cH b::rN n::dq (mat n n ((pg L (gJ L 0 6,kH L 0 n) n).1))::j16 (j16 (j16 (j16 (jk::jk::[]))))))) (l:=[]) trivial (by
    simp[wk];exact⟨rfl,rfl,(vi (H:=Hm [(31,l8 31 n n ((pg L (gJ L 0 6,kH L 0 n) n).1))]) (d:=31) (n:=n) (c:=n) (f:=(pg L (gJ L 0 6,kH L 0 n) n).1) rfl).symm⟩))),rfl⟩
  ·have r:e%8=3:=by omega
   rw[r,show((3:Nat):Int)=3 from rfl];refine cz (bZ (cB (k:=cb rfl (cB (k:=cb rfl (cB (k:=cb rfl (sY (k:=gO rfl ?_)))))))));refine gu 2 D [] [] (by kernel_rfl) (by rfl) (by rfl) fun _ K=>?_;simp only[kd,cH,aa,ab];apply K
   rw[F (by omega)];refine⟨(aj (tm:=(j4 (jk::cH b::rN n::.one (.sl 31 0 0 n)::j16 (j16 (j16 (j16 (jk::jk::[]))))))) (l:=[(31,l8 31 n n ((pg L (gJ L 0 6,kH L 0 n) n).1))]) ⟨dA 0 31 n n _,trivial⟩ (by simp[wk])).trans ((bF 31 (ff rfl)).trans (aj (tm:=(j4 (jk::cH b::rN n::dq (mat n n ((pg L (gJ L 0 6,kH L 0 n) n).1))::j16 (j16 (j16 (j16 (jk::jk::[]))))))) (l:=[]) trivial (by
    simp[wk];exact⟨rfl,rfl,(vi (H:=Hm [(31,l8 31 n n ((pg L (gJ L 0 6,kH L 0 n) n).1))]) (d:=31) (n:=n) (c:=n) (f:=(pg L (gJ L 0 6,kH L 0 n) n).1) rfl).symm⟩))),rfl⟩
  ·have r:e%8=4:=by omega
   rw[r,show((4:Nat):Int)=4 from rfl];refine cz (bZ (cB (k:=cb rfl (cB (k:=cb rfl (cB (k:=cb rfl (sY (k:=cb rfl (cB (k:=gO rfl (R5 [⟨1,_,_,_,J⟩] (k:=?_)))))))))))));refine dG.weak (aj (tm:=(j4 (jk::cH b::rN n::.one (.sl 35 0 0 n)::j16 (j16 (j16 (j16 (jk::jk::[]))))))) (l:=[(35,l8 35 n n (ju false n n))]) ⟨dA 0 35 n n _,trivial⟩ (by simp[wk])) ?_;refine jF ch 6 y [] [] (by kernel_rfl) (by kernel_rfl) (by rfl) (by rfl) fun _ K=>?_;simp(disch:=omega) only[kd,cH,aa,Int.reduceToNat,x1,x2,x3,aP,gV];apply K
   rw[show li e L n=(upd (ju false n n) 0 0 (ju false n n 0 0+(mv L 0 3:Int)),gh L 0) by grind [li]];refine⟨(aj (tm:=(j4 (jk::cH b::rN n::.one (.sl 35 0 0 n)::j16 (j16 (j16 (j16 (jk::jk::[]))))))) (l:=[(35,l8 35 n n (upd (ju false n n) 0 0 (ju false n n 0 0+(mv L 0 3:Int))))]) ⟨rfl,trivial⟩ (by simp[wk])).trans ((bF 35 (ff rfl)).trans (aj (tm:=(j4 (jk::cH b::rN n::dq (mat n n (upd (ju false n n) 0 0 (ju false n n 0 0+(mv L 0 3:Int))))::j16 (j16 (j16 (j16 (jk::jk::[]))))))) (l:=[]) trivial (by
    simp[wk];exact⟨rfl,rfl,(vi (H:=Hm [(35,l8 35 n n (upd (ju false n n) 0 0 (ju false n n 0 0+(mv L 0 3:Int))))]) (d:=35) (n:=n) (c:=n) (f:=upd (ju false n n) 0 0 (ju false n n 0 0+(mv L 0 3:Int))) rfl).symm⟩))),rfl⟩
  ·have r:e%8=5:=by omega
   rw[r,show((5:Nat):Int)=5 from rfl];refine cz (bZ (cB (k:=cb rfl (cB (k:=cb rfl (cB (k:=cb rfl (sY (k:=cb rfl (cB (k:=cb rfl (cB (k:=gO rfl (R5 [⟨1,_,_,_,M⟩] (k:=?_)))))))))))))));refine dG.weak (aj (tm:=(j4 (jk::cH b::rN n::.one (.sl 48 0 0 n)::j16 (j16 (j16 (j16 (jk::jk::[]))))))) (l:=[(48,l8 48 n n (ju true n n))]) ⟨dA 0 48 n n _,trivial⟩ (by simp[wk])) ?_;refine jF ch 10 x [] [] (by kernel_rfl) (by kernel_rfl) (by rfl) (by rfl) fun _ K=>?_;simp(disch:=omega) only[kd,cH,aa,aP,Z,y1,y2,y3,gV];apply K
   rw[show li e L n=(upd (ju true n n) (n-1) (n-1) (ju true n n (n-1) (n-1)+(mv L 0 2:Int)),gh L 0) by grind [li]];refine⟨(aj (tm:=(j4 (jk::cH b::rN n::.one (.sl 48 0 0 n)::j16 (j16 (j16 (j16 (jk::jk::[]))))))) (l:=[(48,l8 48 n n (upd (ju true n n) (n-1) (n-1) (ju true n n (n-1) (n-1)+(mv L 0 2:Int))))]) ⟨rfl,trivial⟩ (by simp[wk])).trans ((bF 48 (ff rfl)).trans (aj (tm:=(j4 (jk::cH b::rN n::dq (mat n n (upd (ju true n n) (n-1) (n-1) (ju true n n (n-1) (n-1)+(mv L 0 2:Int))))::j16 (j16 (j16 (j16 (jk::jk::[]))))))) (l:=[]) trivial (by
    simp[wk];exact⟨rfl,rfl,(vi (H:=Hm [(48,l8 48 n n (upd (ju true n n) (n-1) (n-1) (ju true n n (n-1) (n-1)+(mv L 0 2:Int))))]) (d:=48) (n:=n) (c:=n) (f:=upd (ju true n n) (n-1) (n-1) (ju true n n (n-1) (n-1)+(mv L 0 2:Int))) rfl).symm⟩))),rfl⟩
  ·have r:e%8=6:=by omega
   rw[r,show((6:Nat):Int)=6 from rfl];refine cz (bZ (cB (k:=cb rfl (cB (k:=cb rfl (cB (k:=cb rfl (sY (k:=cb rfl (cB (k:=cb rfl (cB (k:=cb rfl (cB (k:=gO rfl ?_)))))))))))))));refine gu 2 A [] [] (by kernel_rfl) (by rfl) (by rfl) fun _ K=>?_;simp only[kd,cH,aa,ab];apply K
   rw[show li e L n=(gJ L 0 9,kH L 0 n) by grind [li]];refine⟨(aj (tm:=(j4 (jk::cH b::rN n::.one (.sl 66 0 0 n)::j16 (j16 (j16 (j16 (jk::jk::[]))))))) (l:=[(66,l8 66 n n (gJ L 0 9))]) ⟨dA 0 66 n n _,trivial⟩ (by simp[wk])).trans ((bF 66 (ff rfl)).trans (aj (tm:=(j4 (jk::cH b::rN n::dq (mat n n (gJ L 0 9))::j16 (j16 (j16 (j16 (jk::jk::[]))))))) (l:=[]) trivial (by
    simp[wk];exact⟨rfl,rfl,(vi (H:=Hm [(66,l8 66 n n (gJ L 0 9))]) (d:=66) (n:=n) (c:=n) (f:=gJ L 0 9) rfl).symm⟩))),rfl⟩
  have r:e%8=7:=by omega
  rw[r,show((7:Nat):Int)=7 from rfl];refine cz (bZ (cB (k:=cb rfl (cB (k:=cb rfl (cB (k:=cb rfl (sY (k:=cb rfl (cB (k:=cb rfl (cB (k:=cb rfl (cB (k:=cb rfl ?_)))))))))))))));refine gu 2 z [] [] (by kernel_rfl) (by rfl) (by rfl) fun _ K=>?_;simp only[kd,cH,aa,ab];apply K
  rw[show li e L n=(gJ L 0 1,kH L 0 n) by grind [li]];refine⟨(aj (tm:=(j4 (jk::cH b::rN n::.one (.sl 23 0 0 n)::j16 (j16 (j16 (j16 (jk::jk::[]))))))) (l:=[(23,l8 23 n n (gJ L 0 1))]) ⟨dA 0 23 n n _,trivial⟩ (by simp[wk])).trans ((bF 23 (ff rfl)).trans (aj (tm:=(j4 (jk::cH b::rN n::dq (mat n n (gJ L 0 1))::j16 (j16 (j16 (j16 (jk::jk::[]))))))) (l:=[]) trivial (by
   simp[wk];exact⟨rfl,rfl,(vi (H:=Hm [(23,l8 23 n n (gJ L 0 1))]) (d:=23) (n:=n) (c:=n) (f:=gJ L 0 1) rfl).symm⟩))),rfl⟩
 generalize X:li e L n=Y at*
 obtain⟨f,p⟩:=Y;simp only at t u⊢;have E:mr e L n=(open Classical in if GoodP n f then f else gJ L p 2):=by grind [mr]
 by_cases G:GoodP n f
 ·rw[if_pos G]at E;rw[E];have I:=L6 n f C q t.i64 true (by simp[G]);refine bZ (Le [⟨1,_,_,_,I⟩] @cH.eq_1 (k:=cb rfl (iG (cB (k:=?_)))));refine lI ⟨.inr rfl,b9 rfl ?_ rfl⟩;simp(disch:=omega) only[kd,results35,dq]
 rw[if_neg G]at E;rw[E];have I:=L6 n f C q t.i64 false (by simp[G]);have O:=lT b L p n 2 w u q (by omega) (by omega);rw[show((2:Nat):Int)=2 from rfl]at O;refine bZ (Le [⟨1,_,_,_,I⟩] @cH.eq_1 (k:=gO rfl ?_));refine ri 2 O [] [] (by kernel_rfl) (by rfl) (by rfl) fun _ K=>?_;simp only[kd,cH,aa];apply K
 refine dG.weak (aj (tm:=(j4 (.one (.sl 72 0 0 n)::j16 (j16 (j16 (j16 (j4 (jk::[])))))))) (l:=[(72,l8 72 n n (gJ L p 2))]) ⟨dA 0 72 n n _,trivial⟩ (by simp[wk])) ?_;refine dG.weak ((bF 72 (ff rfl)).trans (aj (tm:=(j4 (dq (mat n n (gJ L p 2))::j16 (j16 (j16 (j16 (j4 (jk::[])))))))) (l:=[]) trivial (by
  simp[wk];grind [vi,Hm]))) ?_
 refine lI ⟨.inr rfl,b9 rfl ?_ rfl⟩;simp(disch:=omega) only[kd,results35,dq]
theorem KP (n c:Nat) (f:FF) (m:1<=n) (B:n<=16) (p:1<=c) (x:c<=16) (y: ∀i j:Nat,i<n->j<c->I64 (f i j)):
  CallC prog 58 [dZ (mat n c f)] ⟨l8 0 n c f,TP n true⟩:=by
 have u:=tj (mat n c f);rw[iE (nO f m B p x),aS,iS f m]at u;refine aB func58 rfl ntmps58 (aC (k:=bQ [⟨1,_,_,_,u⟩] (k:=ai (bH (k:=ao rfl (ak (ar (k:=ai (bH (k:=?_))))))))));refine aG (G:=jW n) (fun g=>⟨(dZ (mat n c f)::j4 (.raw (.int .i64 (c:Int))::jk::.one (.sl 21 0 0 n)::j4 (j4 (j4 (jk::jk::jk::rN n::rN g.i::j16 (j16 (j4 (jk::jk::[])))))))),Hm [(21,kI 21 n c g.i (part f g.i 0))]⟩) (fun g=>n-g.i) ⟨0,by omega⟩ ?_ ?_
 ·refine aj ⟨?_,trivial⟩ ?_
  ·rfl
  simp[wk]
 rintro⟨i,z⟩;simp only;by_cases o:i<n
 ·have C:=bu c f o;have D:=zL (i:=i) (n:=n) 21 c o;have J:=mW (i:=i) (n:=n) 21 c z;have E:=aS i c (part f i 0);have F:=tC (i:=i) (n:=n) (c:=c) 21 (part f i 0) o (fun j A=>by grind [part]);have w:=vp (i:=i+1) (k:=i) (n:=n) 21 c (by omega);have K:=mW (i:=i+1) (n:=n) 21 c (by omega);have L:=dO (n:=i+1) c (part f i 0) (i:=i) (by omega);refine ar (k:=bA rfl (ai (am (bH (k:=aK (aE D (aE @Yq (aE @ZR E))) (k:=?_))))));refine bs.weak (aj (tm:=(dZ (mat n c f)::j4 (.raw (.int .i64 (c:Int))::jk::.one (.sl 21 0 0 n)::rN i::j4 (j4 (j4 (jk::jk::rN n::rN i::j16 (j16 (j4 (jk::jk::[]))))))))) (l:=[(21,kI 21 n c (i+1) (part f i 0))]) ⟨?_,trivial⟩ (by simp[wk])) ?_
  ·first|exact F|rfl
  refine aK w (k:=?_);refine aG (G:=jW c) (fun g=>⟨(dZ (mat n c f)::j4 (.raw (.int .i64 (c:Int))::jk::.one (.sl 21 0 0 n)::rN i::j4 (j4 (j4 (jk::jk::rN n::rN i::j4 (j4 (jk::jk::jk::rN c::rN g.i::j16 (j4 (j4 (jk::[])))))))))),Hm [(21,kI 21 n c (i+1) (part f i g.i))]⟩) (fun g=>c-g.i) ⟨0,by omega⟩ ?_ ?_
  ·refine aj ⟨rfl,trivial⟩ ?_;simp[wk]
  rintro⟨j,A⟩;simp only;by_cases h:j<c
  ·have s:=az (f i) h;have v:=y i j o h;have t:=O3 (f i j) (v.sz (by omega));rw[jq,if_pos (show -9223372036854775808<=f i j/\f i j<=9223372036854775807 from v)]at t;have H:=dO (n:=i+1) c (part f i j) (i:=i) (by omega);have I:=az (part f i j i) h;refine ar (k:=bA rfl (ai (am (bH (k:=ce [⟨7,_,_,_,t⟩] (aE C s) (k:=ai (bH (k:=ao rfl (ak (dU (aE w (aE H (aE I @gV))) (k:=bK (k:=?_))))))))))));refine⟨⟨j+1,by omega⟩,by grind,aj ⟨?_,trivial⟩ ?_⟩
   ·show _::_=_::_;rw[gd fun a b _ _=>iw f i j a b]
   simp[wk]
  have r:j=c:=by omega
  subst r;refine ar (k:=bG rfl (bK (k:=?_)));refine⟨⟨i+1,by omega⟩,by grind,aj ⟨?_,trivial⟩ ?_⟩
  ·grind [gd,jQ]
  simp[wk]
 have q:i=n:=by omega
 subst q;refine ar (k:=bG rfl ?_);show bs _ _ _ _;have e:kI 21 i c i (part f i 0)=l8 21 i c f:=by
  grind [gd,jP]
 rw[e];refine bH (k:=?_);refine aZ ⟨.inr rfl,Ui (d:=21) rfl ?_ (by decide)⟩;simp(disch:=omega) only[kd,results58]
structure Wv (N B Z n:Nat) (f0 h T:FF) where
 f:Nat->Nat->Int
 t:Nat->Nat->Int
 s:Nat
 adds:Nat
 inv:RedI N B Z n f0 f t s adds
 rch:Rch n f t h T
theorem EL (a b:Nat):Sz (idF a b) 1:=by grind [idF,nt]
theorem QN {l:Nat} {f0 t h T:FF} (x:DC n m j p) (u:1<=l) (v:l<=n) (y:dk f0 l<=10000) (z:Rch l e t h T): ∀s o,RedI n m p l f0 e t s o->RedR h l:=by
 induction z with
 |done e t r=>exact fun s o q=>q.red u y r
 |step e t h T c r _ w=>
  intro s o q;cases c with
  |add i b=>exact w _ _ (q.add x v r).1
  |swp g=>exact w _ _ (q.swap x v r)
theorem Jg {q:Nat} {f0 t:FF} {s r:Nat} (v:DC n m j p) (h:RedI n m p q f0 e t s r) (y:q<=n) {c:Ch} (x:scanF e q=some c): ∀a b,a<q->b<q->Sz (R8 e c a b) 500:=fun a b z A=>by
 obtain⟨w,u⟩:=iz x;cases c with
 |add i l=>
  have u:i<q:=u;show Sz (OR i l (cF e i l) a b) 500;rcases rY idF l i (cF e i l) a b with g|g
  ·unfold OR;rw[g];exact(h.szc v y u w.1).mono (by have:=v.z4;omega)
  unfold OR;rw[g];exact(EL a b).mono (by omega)
 |swp o=>exact(EL _ b).mono (by omega)
theorem Tu (f:FF) {c:Ch} (o:scanF f n=some c):mat n n (Em n f (R8 f c))=mat n n (WF f c):=by
 obtain⟨e,l⟩:=iz o;refine gA fun a b g h=>?_
 cases c with
 |add i j=>exact PC (by have:=e.1;omega) (by have:i<n:=l;have:=e.1;omega) f a b g h
 |swp m=>exact Tv l f a b g h
structure If (N B Z n:Nat) (f:FF):Prop where
 good:GoodP n f
 sz: ∀i j,i<n->j<n->Sz (f i j) 400
 st:RedI N B Z n f f idF 0 0
theorem If.dk {N B S Z n:Nat} {f:FF} (h:DC N B S Z) (k:If N B Z n f) (b:1<=n):dk f n<=10000:=by
 obtain⟨g,c,e⟩:=k.good;have:=(Ak c (n-1) (by omega)).2;grind
theorem If.ex {b:Nat} (g:DC n m j p) (k:If n m p b e) (c:1<=b) (l:b<=n): ∃h T,RedR h b/\Rch b e idF h T:=by
 obtain⟨h,T,o⟩:=oZ (f0:=e) g l _ e idF 0 0 (XY _) k.st;exact⟨h,T,QN g c l (k.dk g c) o 0 0 k.st,o⟩
theorem Sw (g:1<=n) (l:n<=8) (h:DI e) (c:GoodP n e):If 8 bB 41 n e:=
 ⟨c,fun i j _ _=>(h.i64 i j).sz (by omega),RedI.start g l c.1 c.2.1 (fun a b=>by have:=h a b;omega) (fun a b _ _=>EL a b)⟩
theorem Ig {Z:Nat} (x:DC n m j Z) (q:Nat) (f h T:FF) (r:1<=q) (y:q<=n) (k:If n m Z q f) (K:RedR h q) (hr:Rch q f idF h T):
  CallC prog 24 [dZ (mat q q f)] ⟨l8 0 q q h,.tup [(false,[.sl 0 0 0 q]),(false,[.p (.sl (ls (fR fZ) (mat q q T)))]),(false,[.p (.raw (.int .i64 0))])]⟩:=by
 have D:q<=8:=XQ y x.n8;have Q:=k.st;obtain⟨hs,hp,hd⟩:=k.good;have E: ∀i b,i<q->b<q->Sz (f i b) 1024:=fun i b u v=>(k.sz i b u v).mono (by omega)
 obtain⟨e,he,V⟩:=um q q f r (by omega) r (by omega) E;have M:e=0:=he.2 ⟨rfl,D,hs,hp⟩;subst M;have R:=NL q f r (by omega) E;rw[decide_eq_true hd]at R;have W:=KG q q f (by omega) r (by omega) (fun i b u v=>(E i b u v).mono (by omega));have X:=t8 q r (by omega);have P:=aS q q f;refine aB func24 rfl ntmps24 (aC (k:=ai (bQ [⟨1,_,_,_,V⟩] (k:=ar (k:=ao rfl (ak (ai (bQ [⟨1,_,_,_,R⟩] (k:=ao rfl (ak (bQ [⟨1,_,_,_,W⟩] (k:=iH [⟨2,_,_,_,X⟩] P (k:=?_)))))))))))));refine aG (G:=Wv n m Z q f h T) (fun g=>⟨(j4 (jk::jk::dZ (mat q q g.f)::dZ (mat q q g.t)::j16 (j16 (j4 (j4 (jk::[])))))),Hm []⟩) (fun g=>So j q g.f g.s) ⟨f,idF,0,0,Q,hr⟩ ?_ ?_
 ·refine(aj (tm:=(j4 (jk::jk::.one (.sl 22 0 0 q)::.one (.sl 26 0 0 q)::j16 (j16 (j4 (j4 (jk::[]))))))) (l:=[(22,i5 22 q q f),(26,i5 26 q q idF)]) ⟨fS 0 22 q q _,fS 0 26 q q _,trivial⟩ (by simp[wk])).trans ((bF 22 (ke rfl)).trans ((aj (tm:=(j4 (jk::jk::dZ (mat q q f)::.one (.sl 26 0 0 q)::j16 (j16 (j4 (j4 (jk::[]))))))) (l:=[(26,i5 26 q q idF)]) ⟨rfl,trivial⟩ (by
   simp[wk];exact⟨(Sf (H:=Hm [(22,i5 22 q q f),(26,i5 26 q q idF)]) (d:=22) (n:=q) (c:=q) (f:=f) rfl).symm,rfl⟩)).trans ((bF 26 (ke rfl)).trans (aj trivial ?_))))
  simp[wk];exact⟨rfl,(Sf (H:=Hm [(26,i5 26 q q idF)]) (d:=26) (n:=q) (c:=q) (f:=idF) rfl).symm⟩
 rintro⟨g,t,s,z,w,J⟩;simp only;have L:=Ux q g r D w.dfn.pos (fun i b u v=>(w.szf x y u v).mono (by omega));cases A:scanF g q with
 |none=>
  obtain⟨rfl,rfl⟩:g=h/\t=T:=by
   cases J with
   |done _ _ _=>simp
   |step _ _ _ _ c F _=>grind
  have O:=xX r D K;have ct:=KP q q g r (by omega) r (by omega) (fun i b u v=>by have:=O i u b v;exact⟨by omega,by omega⟩);rw[A]at L;refine am (iH [⟨1,_,_,_,L⟩] @Vb.eq_1 (k:=ai (bH (k:=aD rfl (iH [⟨1,_,_,_,ct⟩] @TP.eq_1 (k:=?_))))));refine bs.weak (aj (tm:=(j4 (jk::jk::jk::dZ (mat q q t)::jk::jk::jk::.one (.sl 38 0 0 q)::j16 (j16 (j4 (jk::[])))))) (l:=[(38,l8 38 q q g)]) ⟨dA 0 38 _ _ _,trivial⟩ (by simp[wk])) ?_;refine bH (k:=?_);refine aZ ⟨.inr rfl,_,bv.refl _,?_⟩;refine⟨.tup [(false,[.sl 38 0 0 q]),(false,[.p (.sl (ls (fR fZ) (mat q q t)))]),(false,[.p (.raw (.int .i64 0))])],38,?_,wE (by simp[selfTV,bz]) (by decide),(dA 38 0 _ _ _).symm,rfl⟩;simp(disch:=omega) only[kd,results24]
 |some c=>
  have C:Rch q (WF g c) (jc q t (R8 g c)) h T:=by
   cases J with
   |done _ _ F=>grind
   |step _ _ _ _ c' F aa=>
    grind
  rw[A]at L;have I:=Jg x w y A;have ha:=w.adds_le x y;have U:=A5 q g (R8 g c) r (by omega) (fun i b u v=>(w.szf x y u v).mono (by omega)) (fun i b u v=>(I i b u v).mono (by omega));rw[Tu g A]at U;have Y:=qT q q q t (R8 g c) r (by omega) r (by omega) r (by omega) (fun i b u v=>(w.szt i b u v).mono (XQ (Nat.add_le_add_left (XU (Z+4) ha) 1) (by have:=x.sz;omega))) (fun i b u v=>(I i b u v).mono (by omega));refine am (iH [⟨1,_,_,_,L⟩] @Vb.eq_1 (k:=ai (bH (k:=ao rfl (ak (Vv [⟨2,_,_,_,U⟩,⟨5,_,_,_,Y⟩] (k:=?_)))))));cases c with
  |add i b=>
   refine⟨⟨_,_,s,z+1,(w.add x y A).1,C⟩,w.mu_add x y A,aj trivial ?_⟩;simp[wk];exact⟨rfl,rfl⟩
  |swp o=>
   refine⟨⟨_,_,s+1,z,w.swap x y A,C⟩,w.mu_swap x y A,aj trivial ?_⟩;simp[wk];exact⟨rfl,rfl⟩
theorem zC {f:FF} (g: ∀a b,a≠b->f a b=0) (l: ∀a,0<f a a): ∀k,(0<dk f k/\ ∀t,t<k->0<dk f (t+1))/\ ∀a b,k<=a->k<=b->bk f k a b=dk f k*f a b
 |0=>⟨⟨by rw[co];omega,fun t h=>by omega⟩,fun a b _ _=>by grind [cK,co]⟩
 |k+1=>by
  obtain⟨⟨o,p⟩,j⟩:=zC g l k;have e:dk f (k+1)=dk f k*f k k:=by grind [b7]
  have c:0<dk f (k+1):=by simp_all[aa1]
  refine⟨⟨c,fun t h=>?_⟩,fun a b m n=>?_⟩
  ·grind
  have s:=sylv f k (fun t h=>by grind) a b;rw[j a b (by omega) (by omega),j a k (by omega) (by omega),g a k (by omega),Int.mul_zero,abQ,Int.sub_zero]at s;grind [Int.eq_of_mul_eq_mul_left,Int.mul_left_comm]
theorem GA {f:FF} (e: ∀a b,a≠b->f a b=0) (c: ∀a,0<f a a) (g: ∀a,f a a<=2): ∀k,dk f k<=2^k
 |0=>by rw[co];decide
 |k+1=>by
  obtain⟨⟨j,_⟩,l⟩:=zC e c k;rw[b7,l k k (by omega) (by omega),Int.pow_succ];have h:=GA e c g k;exact YG h (g k) (ZE (c k)) (Int.le_trans (ZE j) h)
theorem LE (L:List Int) (p n:Nat) (o:1<=n) (m:n<=8):GoodP n (gJ L p 2):=by
 have f: ∀a b,a≠b->gJ L p 2 a b=0:=fun a b h=>by grind [gJ]
 have g: ∀a,0<gJ L p 2 a a:=fun a=>by grind [gJ]
 have l: ∀a,gJ L p 2 a a<=2:=fun a=>by
  unfold gJ;rw[if_pos rfl];have:=lN (n:=2) L (kH L p a) (by omega);omega
 have j: ∀k,0<dk (gJ L p 2) (k+1):=fun k=>(zC f g (k+1)).1.1
 have c: ∀k,detF (k+1) (gJ L p 2)=dk (gJ L p 2) (k+1):=fun k=>tA fun t _=>by grind
 refine⟨fun a _ b _=>?_,fun k _=>by grind,?_⟩
 ·grind
 have e:=c (n-1);rw[show n-1+1=n by omega]at e;rw[e];have q:=GA f g l n;have r:(2:Int)^n<=2^8:=by
  have:=Yd (show 0<2 by omega) m;grind
 omega
theorem vj (b:Nat) (L:List Int) (n:Nat) (c:1<=n) (e:n<=8):GoodP n (mr b L n)/\DI (mr b L n):=by
 grind [mr,Hh,LE,Eo]
theorem O2 (e b:Nat) (L B:List Int) (c n:Nat) (h T:FF) (v:I8 L) (o:e<=255) (g:b<=255) (p:1<=c) (q:c<=8) (y:n=1+e%c) (z:RedR h n) (w:Rch n (mr b L n) idF h T):
  CallC prog 14 [tL e b L B,.raw (.int .i64 (c:Int))] ⟨l8 0 n n h,.one (.sl 0 0 0 n)⟩:=by
 have f:1<=n:=by omega
 have m:n<=8:=by have:=Yk e (show 0<c by omega);omega
 have s:=ST e b L B c n v o g p q y;obtain⟨x,r⟩:=vj b L n f m;have u:=Ig WD n (mr b L n) h T f m (Sw f m r x) z w;have t:=Vo n n (mr b L n) f (by omega) f (by omega) (fun i j _ _=>r.i64 i j);generalize mr b L n=A at*
 refine aB func14 rfl ntmps14 (uz @tL.eq_1 (k:=iH [⟨2,_,_,_,s⟩,⟨3,_,_,_,t⟩,⟨4,_,_,_,u⟩] @tL.eq_1 (k:=?_)));refine bs.weak (aj (tm:=(j4 (jk::.one (.sl 13 0 0 n)::j4 (j4 (j4 ([])))))) (l:=[(13,l8 13 n n h)]) ⟨dA 0 13 _ _ _,trivial⟩ (by simp[wk])) ?_;refine bH (k:=?_);refine aZ ⟨.inr rfl,_,bv.refl _,?_⟩;refine⟨.one (.sl 13 0 0 n),13,?_,rfl,(dA 13 0 _ _ _).symm,rfl⟩;simp(disch:=omega) only[kd,results14]
theorem O0 (e c:Nat) (L B:List Int) (b n:Nat) (h T:FF) (m:I8 L) (g:e<=255) (f:c<=255) (j:1<=b) (l:b<=8) (p:n=1+e%b) (q:RedR h n) (o:Rch n (mr c L n) idF h T):
  CallC prog 14 [tL e c L B,.raw (.int .i64 (b:Int))] ⟨[],dq (mat n n h)⟩:=
 (O2 e c L B b n h T m g f j l p q o).fzI
theorem SS (b:Nat) (L:List Int) {n:Nat} (c:1<=n) (e:n<=8): ∃h T,RedR h n/\Rch n (mr b L n) idF h T:=by
 obtain⟨g,f⟩:=vj b L n c e;exact(Sw c e f g).ex WD c e
theorem SR (e c:Nat) (L B:List Int) (b n:Nat) (p:I8 L) (g:e<=255) (f:c<=255) (j:1<=b) (l:b<=8) (q:n=1+e%b):
  ∃h,RedR h n/\CallC prog 14 [tL e c L B,.raw (.int .i64 (b:Int))] ⟨[],dq (mat n n h)⟩:=by
 obtain⟨h,T,m,o⟩:=SS c L (n:=n) (by omega) (by have:=Yk e (show 0<b by omega);omega);grind [O0]
section
open Go.ChangeShapes Go.WideShapes Go.ChangeAt Go.RowKit
theorem QO {A:Option Addr} (u:f.length<=n) (v:f.length<=9223372036854775807) (h:RdI .i8 w A f):bO (fun _=>False) w (.sl (ls f8 f)) (.slice A f.length n):=by
 cases f with
 |nil=>exact bO.nil _ _
 |cons p l0=>
  obtain⟨b,o,rfl,t⟩:=h (by simp);have r:=t 0 (.int .i8 p) (by simp);have s:b<w.heap.size:=tu r;have:=bO.sl (X:=fun _=>False) (w:=w) b o 1 n (ls f8 (p::l0)) (fun i _=> .int .i8 ((p::l0).getD i 0)) (fun h=>h) s (fun e g=>by
   obtain⟨z,_,rfl⟩:=XR.1 g;rfl) (by grind [dE]) (by grind [dE]) (fun i e j x g m=>by
   rw[fh]at g;obtain⟨z,q,rfl⟩:=XI.1 g;cases j with
   |succ j=>simp[f8]at m
   |zero=>
    grind) (fun i e j x g m=>by
   rw[fh]at g;obtain⟨z,q,rfl⟩:=XI.1 g;cases j with
   |succ j=>simp[f8]at m
   |zero=>
    simp[f8]at m;subst m;simp only[Yf,q,Y4];exact bO.raw _ rfl)
  grind [dE]
theorem vR {H:Type} {o:TypeId×Value->H} {j:Bool} {e:TypeId} {y:DataW H×List MemPlace} (r:P.underlying g=some (.slice e)) (A:P.underlying e=some (.int .i8)) (u:P.cellsOf e=1) (b:DataW.trod o P w n (fun _=>true) j m g [h]=some y):
  ∃L:List Int,bO (fun _=>False) w (.sl (ls f8 L)) h/\I8 L:=by
 rcases DataW.trod_slice r b with⟨f,_⟩|⟨x,l,c,_,_,_,_,f,_⟩
 ·simp at f;subst f;exact⟨[],bO.nil _ _,fun z q=>by simp at q⟩
 simp at f;subst f;obtain⟨B,C,D,E,F,s,_⟩:=M3 (enc:=o) (base:=n) (held:=j) (d:=y.1) (p:=y.2) r A u ⟨m,by simpa[Value.cells] using b⟩;refine⟨B,?_,fun z q=>OK (s z q)⟩;grind [maxLen,QO]
theorem vS {H:Type} {f:TypeId×Value->H} {e:Bool} {y:DataW H×List MemPlace} (j:P.underlying g=some (.int .u8)) (b:DataW.trod f P w n (fun _=>true) e m g [h]=some y): ∃c:Nat,h= .int .u8 (c:Int)/\c<=255:=by
 obtain⟨c,o,_,l⟩:=DataW.trod_int j b;have:=wW l;refine⟨c.toNat,?_,by omega⟩;grind
theorem VV {d k:Nat} {B:List Int} {c:Value} (e:bO (fun _=>False) w (.sl (ls f8 f)) h) (g:bO (fun _=>False) w (.sl (ls f8 B)) c):
  (tL d k f B).rel (fun _ _=>none) (fun _=>[]) (fun _=>False) w (.agg #[.int .u8 (d:Int),.int .u8 (k:Int),h,c]):=by
 refine⟨#[.int .u8 (d:Int),.int .u8 (k:Int),h,c],rfl,rfl,fun j x b=>?_⟩
 match j,b with
 |0,b=>simp at b;subst b;exact⟨_,rfl,rfl,bO.raw _ rfl⟩
 |1,b=>simp at b;subst b;exact⟨_,rfl,rfl,bO.raw _ rfl⟩
 |2,b=>simp at b;subst b;exact⟨_,rfl,e.one,e⟩
 |3,b=>simp at b;subst b;exact⟨_,rfl,g.one,g⟩
 |j+4,b=>simp at b
theorem Vz: ∀{b:List TV} {vs:List Value},b.length=vs.length->(∀(j:Nat) t v,b[j]?=some t->vs[j]?=some v->t.rel (fun _ _=>none) (fun _=>[]) (fun _=>False) w v)->
  ∀(j:Nat) t,b[j]?=some t-> ∃v:Value,vs.toArray[j]?=some v/\t.rel (fun _ _=>none) (fun _=>[]) (fun _=>False) w v:=fun{b vs} hl h j t hj=>by
 have c:=(XN.1 hj).1;obtain⟨v,e⟩: ∃v,vs[j]?=some v:=⟨_,X0 (by omega)⟩;grind
end
section
theorem ia (c:Int) (F:Nat->Int): ∀k,dP (fun p=>c*F p) k=c*dP F k
 |0=>by simp[dP]
 |k+1=>by rw[dP,dP,ia c F k];grind
theorem NK (c:Int) (F:Nat->Int) (k:Nat):dP (fun p=>F p*c) k=dP F k*c:=by
 grind [Int.mul_comm,ia]
def BF (n:Nat) (f:FF) (x y:Nat->Int):Int:=dP (fun i=>x i*dP (fun j=>f i j*y j) n) n
variable {n:Nat}
theorem iF {f':FF} {y g:Nat->Int} (h: ∀i j,i<n->j<n->e i j=f' i j) (m: ∀i,i<n->b i=c i) (o: ∀i,i<n->y i=g i):BF n e b y=BF n f' c g:=
 bJ n fun i l=>by grind [bJ]
theorem tg (f g:FF) (x y:Nat->Int) (a b:Int):BF n (fun i j=>a*f i j+b*g i j) x y=a*BF n f x y+b*BF n g x y:=by
 unfold BF;rw[<- ia,<- ia,<- qx];refine bJ n fun i _=>?_
 rw[bJ n (G:=fun j=>a*(f i j*y j)+b*(g i j*y j)) (fun j _=>by grind),qx,ia,ia];grind
theorem F6 (u v x y:Nat->Int):BF n (fun i j=>u i*v j) x y=dP (fun i=>x i*u i) n*dP (fun j=>v j*y j) n:=by
 unfold BF;rw[<- NK];refine bJ n fun i _=>?_
 rw[bJ n (G:=fun j=>u i*(v j*y j)) (fun j _=>by grind),ia];grind
theorem gE {f:FF} (q:SymF f n) (l: ∀k,k<n->0<dk f (k+1)) (x:Nat->Int): ∀m k,m+k=n->0<=BF n (bk f k) x x/\(BF n (bk f k) x x=0-> ∀i,k<=i->i<n->x i=0)
 |0,k,h=>by
  obtain rfl:k=n:=by omega
  refine⟨?_,fun _ i p s=>by omega⟩;have:BF k (bk f k) x x=0:=by
   simp_all[BF,bJ,lO,jT]
  omega
 |m+1,k,h=>by
  obtain⟨p,s⟩:=gE q l x m (k+1) (by omega);have b: ∀t,t<n->dk f (t+1)≠0:=fun t o=>by grind
  have u:0<dk f k:=gR fun t o=>l t (by omega)
  have c:=l k (by omega);have key:dk f k*BF n (bk f (k+1)) x x=dk f (k+1)*BF n (bk f k) x x-dP (fun j=>bk f k k j*x j) n*dP (fun j=>bk f k k j*x j) n:=by
   have r:dk f k*BF n (bk f (k+1)) x x=BF n (fun i j=>dk f k*bk f (k+1) i j+0*bk f k i j) x x:=by rw[tg];omega
   rw[r,iF (f':=fun i j=>dk f (k+1)*bk f k i j+(-1)*(bk f k k i*bk f k k j)) (fun i j w B=>by
    have:=sylv f k (fun t o=>b t (by omega)) i j;have e:=i7 q k (by omega) (fun t o=>b t (by omega)) i k w (by omega);grind) (fun _ _=>rfl) (fun _ _=>rfl),tg,F6,bJ n (F:=fun i=>x i*bk f k k i) (G:=fun j=>bk f k k j*x j) (fun i _=>Int.mul_comm _ _)]
   omega
  have z:0<=dP (fun j=>bk f k k j*x j) n*dP (fun j=>bk f k k j*x j) n:=by
   rcases ZM 0 (dP (fun j=>bk f k k j*x j) n)with h|h
   ·exact Yj h h
   exact Yx h h
  have y:=Yj (ZE u) p;have v:0<=dk f (k+1)*BF n (bk f k) x x:=by omega
  refine⟨?_,fun A=>?_⟩
  ·rcases ZX (BF n (bk f k) x x) 0 with g|g
   ·have:=Int.mul_neg_of_pos_of_neg c g;omega
   exact g
  rw[A,Int.mul_zero]at key;have C:dk f k*BF n (bk f (k+1)) x x=0:=by omega
  have D:dP (fun j=>bk f k k j*x j) n*dP (fun j=>bk f k k j*x j) n=0:=by omega
  have E:BF n (bk f (k+1)) x x=0:=by
   grind [Int.mul_eq_zero]
  grind [Int.mul_eq_zero,n7,zq,b7]
end
section
def PD (f:FF) (n:Nat):Prop:=SymF f n/\ ∀k,k<n->0<dk f (k+1)
theorem RedR.pd (h:RedR e n):PD e n:=⟨h.1,h.2.1⟩
variable {n:Nat}
theorem ny (g: ∀i,i<n->b i=0):BF n e b c=0:=by
 simp_all[BF,bJ,jT]
theorem PD.pos (b:PD e n) (x:Nat->Int):0<=BF n e x x/\(BF n e x x=0↔ ∀i,i<n->x i=0):=by
 have h:=gE b.1 b.2 x n 0 rfl;grind [BF,cK,ny]
/-! The column of cofactors. -/
def eC (i:Nat):Nat->Int:=fun r=>if r=i then 1 else 0
/-! Bounds. -/
end
def dg (b j:Nat):Int:=((b/3^j%3:Nat):Int)-1
def WN (n:Nat) (f:FF) (x:Nat->Int):Int:=BF n f x x
theorem Ua {f:FF} {i:Nat} (b:i<n):WN n f (eC i)=f i i:=by
 grind [eC,n7,WN,BF]
theorem uK {f:FuncId} {args:List TV} {r:TV} (x:callable P f=true) (h: ∀(X:Nat->Prop) (w:World) (vs:Array Value),(∀b,X b->b<w.heap.size)->vs.size=args.length-> (∀(j:Nat) t,args[j]?=some t-> ∃v:Value,vs[j]?=some v/\t.rel (fun _ _=>none) (fun _=>[]) X w v)->Calls P f vs w fun e l=> ∃v,e= .returned v/\(∀z H Y,(∀b,Y b->b<w.heap.size)->r.rel z H Y l v)/\Ext w l):CallC P f args ⟨[],r⟩:=
 ⟨x,fun X w vs m g u=>(h X w vs m g u).mono fun e l ⟨v,p,q,s⟩=>⟨v,p,fun _ _=>none,GQ s m,q _ _ _ (fun b n=>by
  rcases n with n|⟨a,r,o,c,A,y⟩
  ·grind
  cases y)⟩⟩
theorem fq (M:List (List Int)):CallC prog 36 [dq M] ⟨[],.raw (.bool (isReducedM M))⟩:=by
 refine kR (by kernel_rfl) fun X w vs q l f=>?_
 obtain⟨r,n,m⟩:=uE f (j:=0) rfl;obtain⟨A,c,rfl,g,h,b⟩:=qk m;obtain rfl:vs= #[.slice A M.length c]:=by
  grind
 refine(kC A c M w b h g).mono fun e s ⟨o,p⟩=>?_
 grind [CW]
theorem Um (a b:List (List Int)):CallC prog 17 [dq a,dq b] ⟨[],.raw (.bool (decide (a=b)))⟩:=by
 refine kR (by kernel_rfl) fun X w vs u n g=>?_
 obtain⟨y,q,o⟩:=uE g (j:=0) rfl;obtain⟨z,r,p⟩:=uE g (j:=1) rfl;obtain⟨A,c,rfl,v,m,h⟩:=qk o;obtain⟨B,d,rfl,x,f,l⟩:=qk p;obtain rfl:vs= #[.slice A a.length c,.slice B b.length d]:=by
  grind
 refine(Nx A B c d a b w h l m f).mono fun e C ⟨s,t⟩=>?_
 grind [CW]
theorem No {X:Nat->Prop} (s: ¬X n) (t:n<w.heap.size) (A:f.length<=j) (B:f.length<=9223372036854775807) (h:RdI .i64 w (some ⟨n,m,none⟩) f):bO X w (.sl (ls fI f)) (.slice (some ⟨n,m,none⟩) f.length j):=by
 have u: ∀(i:Nat) (z:Int),f[i]?=some z->w.cell? ⟨n,m+i,none⟩=some (.int .i64 z):=fun i z q=>by
  cases f with
  |nil=>simp at q
  |cons C l0=>
   obtain⟨v,r,y,u⟩:=h (by simp);grind
 have:=bO.sl (X:=X) (w:=w) n m 1 j (ls fI f) (fun i _=> .int .i64 (f.getD i 0)) s t (fun e o=>by
  obtain⟨z,_,rfl⟩:=XR.1 o;rfl) (by grind [dE]) (by grind [dE]) (fun i e g x o p=>by
  grind [fh,fI]) (fun i e g x o p=>by
  rw[fh]at o;obtain⟨z,q,rfl⟩:=XI.1 o;cases g with
  |succ g=>simp[fI]at p
  |zero=>
   simp[fI]at p;subst p;simp only[Yf,q,Y4];exact bO.raw _ rfl)
 grind [dE]
/-! The plain side of Gram. -/
abbrev TQ (G:List (List Int)) (b:Bool):TV:= .tup [(false,[.p (.sl (ls (fR fI) G))]),(false,[.p (.raw (.bool b))])]
theorem TS {M:List (List Int)} {y:List Int} (l:isReducedM M=true) (q:wY M.length f=true) (t:wY M.length y=true):
  eZ f (fc M y) f.length=BF M.length (ent M) (fun i=>f.getD i 0) (fun i=>y.getD i 0):=by
 obtain⟨w,z,e,B⟩:=(jK M).1 l;obtain⟨b,s⟩:=pj.1 q;obtain⟨g,u⟩:=pj.1 t;generalize A:M.length=n at*
 have v:M=mat n n (ent M):=by
  apply X7;intro i;by_cases o:i<n
  ·rw[bu _ _ o];obtain⟨r,c⟩:=getElem?_of_lt (show i<M.length by omega);rw[c];have p:r.length=n:=by
    have:=e i (by omega);grind
   refine congrArg some ?_;apply X7;grind [az,ent,aH]
  grind [aS]
 have h: ∀(f:List Int),f.length=n->f=aN n (fun i=>f.getD i 0):=fun f b=>by
  apply X7;grind [az,aH]
 have m:isReducedM (mat n n (ent M))=true:=by grind
 have ex:=h f b;have j:=h y g;rw[show fc M y=WC n n (ent M) y by grind [D8],b,WC];generalize(fun i=>f.getD i 0)=fx at*
 generalize(fun i=>y.getD i 0)=fy at*
 rw[ex,j,pz _ _ n (XY _)];exact bJ n fun i _=>by grind [pz]
theorem Uk {b:Func} {r:TV} (k:Nat) (f:s.tmps[k]?=some (.raw (.slice none 0 0))) (e:s.H 1000=[]) (h:o7 P ⟨s.tmps.set k (.one (.p (.sl []))),s.H⟩ b.results.toList=some r) (g:noRefTV r=true): ∃c,bv s c/\mB P b ⟨[],r⟩ c:=
 ⟨_,Pg k f,lj e h g⟩
theorem Il (m:Nat) (b:List (an P)) (e:List Nat) {id:Nat} {c:Array Oper} {Q:Exit->AS->Prop} (t:s.tmps.length<=1000000) (u:m<=c.toList.length) (h: ∀K:AS->Prop,(∀j,(∃f,bv j f/\f.tmps.length<=1000000/\ ∀K:AS->Prop,(∀g,Q .normal g->K g)->aV P (b.map an.a) e (aJ c (c.toList.drop m) m) (some f) K)->K j)->aV P (b.map an.a) e (aJ c (c.toList.take m) 0) (some s) K):bs P (.region id c false) Q s:=by
 obtain⟨j,l,f,q,p,n⟩:=aO P (b.map an.a) e c _ 0 s _ (h _ fun _ h=>h);obtain⟨g,r,o⟩:=aO P (b.map an.a) e c _ m f _ (n _ fun _ h=>h);refine r9 m _ (an.ok b) e l q ?_ o;grind
theorem rz (M:List (List Int)) (r:List Int):lc (fR fI) M++[[.p (.sl (ls fI r))]]=lc (fR fI) (M++[r]):=by simp[lc,fR]
section
variable {n:Nat}
theorem PD.diag (g:PD e n) {i:Nat} (c:i<n):0<e i i:=by
 have h:=g.pos (eC i);have b:=Ua (f:=e) c;grind [WN,eC]
end
section
variable {n:Nat}
theorem wH {F:Nat->Int}: ∀m,(∀a,a<m->0<=F a)->0<=dP F m
 |0,_=>by simp[dP]
 |m+1,h=>by
  have:=wH m fun a b=>h a (by omega)
  grind [dP]
/-! Signs. -/
end
section
variable {n:Nat}
theorem VX (h:x*x<=(n:Int)*(n:Int)): -(n:Int)<=x/\x<=(n:Int):=by
 have c:x.natAbs*x.natAbs<=n*n:=by
  grind [Int.natAbs_mul_self]
 have e:x.natAbs<=n:=by
  rcases aad n x.natAbs with b|b
  ·have:=Nat.mul_lt_mul'' b b;omega
  exact b
 omega
end
section
variable {n:Nat}
inductive WT where
 |swp (i:Nat)
 |rep (i c:Nat)
 |neg (i:Nat)
def WT.i:WT->Nat
 | .swp i=>i
 | .rep i _=>i
 | .neg i=>i
/-! What the operations do to the Gram matrix. -/
theorem AH {F G:Nat->Int} {i:Nat}: ∀{m},i<m->(∀a,a<m->a≠i->F a=G a)->dP G m=dP F m+(G i-F i)
 |m+1,f,h=>by
  rw[dP,dP];by_cases e:i=m
  ·grind [bJ]
  rw[AH (m:=m) (by omega) (fun a c b=>h a (by omega) b),h m (by omega) (Zl e)];omega
end
section
variable {n:Nat}
theorem lw (m:SymF e n) (q: ∀k,k<n->0<dk e (k+1)) (x:Nat->Int) {k:Nat} (p:k<n):
  dk e k*BF n (bk e (k+1)) x x=dk e (k+1)*BF n (bk e k) x x-dP (fun j=>bk e k k j*x j) n*dP (fun j=>bk e k k j*x j) n:=by
 have c: ∀t,t<n->dk e (t+1)≠0:=fun t g=>by grind
 have h:dk e k*BF n (bk e (k+1)) x x=BF n (fun i j=>dk e k*bk e (k+1) i j+0*bk e k i j) x x:=by rw[tg];omega
 rw[h,iF (f':=fun i j=>dk e (k+1)*bk e k i j+(-1)*(bk e k k i*bk e k k j)) (fun i j l o=>by
  have:=sylv e k (fun t g=>c t (by omega)) i j;have b:=i7 m k (by omega) (fun t g=>c t (by omega)) i k l (by omega);grind) (fun _ _=>rfl) (fun _ _=>rfl),tg,F6,bJ n (F:=fun i=>x i*bk e k k i) (G:=fun j=>bk e k k j*x j) (fun i _=>Int.mul_comm _ _)]
 omega
theorem Dc {f:FF} (b:PD f n) (x:Nat->Int) {N:Int} (c:BF n f x x<=N): ∀k,k<=n->BF n (bk f k) x x<=N*dk f k
 |0,_=>by
  rw[co,Int.mul_one,iF (fun i j _ _=>cK f i j) (fun _ _=>rfl) (fun _ _=>rfl)];exact c
 |k+1,r=>by
  have p:=Dc b x c k (by omega);have e:=lw b.1 b.2 x (show k<n by omega);have l:0<dk f k:=gR fun t s=>b.2 t (by omega)
  have m:=b.2 k (by omega);have o:0<=dP (fun j=>bk f k k j*x j) n*dP (fun j=>bk f k k j*x j) n:=by
   rcases ZM 0 (dP (fun j=>bk f k k j*x j) n)with h|h
   ·exact Yj h h
   exact Yx h h
  have q:dk f (k+1)*BF n (bk f k) x x<=dk f (k+1)*(N*dk f k):=X5 p (by omega);have g:dk f k*BF n (bk f (k+1)) x x<=dk f k*(N*dk f (k+1)):=by
   grind
  exact aap g l
theorem Mu {f:FF} (b:RedR f n): ∀k,k<n->dk f k<=((2^k:Nat):Int)*dk f (k+1)
 |0,h=>by
  have q:=b.2.1 0 h;grind [co]
 |k+1,h=>by
  have p:=Mu b k (by omega);obtain⟨m,j⟩:=b.2.2.2 k h;have c:=b.2.1 k (by omega);have g:=b.2.1 (k+1) h;unfold KI at j;have o:=m (k+1) h (by omega);generalize bk f k (k+1) k=l at*
  generalize dk f (k+1+1)=d2 at*
  generalize dk f (k+1)=d1 at*
  generalize dk f k=d0 at*
  have r:4*(l*l)<=d1*d1:=by
   have e:(2*l.natAbs)*(2*l.natAbs)<=d1.toNat*d1.toNat:=Yn (by omega) (by omega);grind [Int.natAbs_mul_self]
  have s:d1*d1<=2*(d0*d2):=by
   grind
  have t:d0*d2<=((2^k:Nat):Int)*d1*d2:=Ys p (by omega);have u:d1*d1<=d1*(((2^(k+1):Nat):Int)*d2):=by
   have e:d1*(((2^(k+1):Nat):Int)*d2)=2*(((2^k:Nat):Int)*d1*d2):=by
    grind
   omega
  simp_all
theorem xU (B:RedR e n) (g:Nat->Int) (X:0<=x) (hN:BF n e g g<=x) (hM:x*((2^n:Nat):Int)<=(m:Int)*(m:Int)): ∀c k,c+k+1=n->(g k).natAbs<=m*2^c:=fun c=>by
 induction c using Nat.strongRecOn with
 |_ c ih=>
  intro k hk;have s:=B.pd;have h:k<n:=by omega
  have H: ∀t,t<n->dk e (t+1)≠0:=fun t U=>by have:=B.2.1 t U;omega
  have ab:=B.2.1 k h;have hd:0<dk e k:=gR fun t U=>B.2.1 t (by omega)
  have F:=lw s.1 s.2 g h;have O:=Dc s g hN k (by omega);have T:=(gE s.1 s.2 g (n-(k+1)) (k+1) (by omega)).1;have Q:=Mu B k h
  -- the sum
  obtain⟨L,Y⟩: ∃L,L=dP (fun j=>bk e k k j*g j) n:=⟨_,rfl⟩;rw[<- Y]at F;have C:L*L<=(m*dk e (k+1))*(m*dk e (k+1)):=by
   have a1:0<=dk e k*BF n (bk e (k+1)) g g:=Yj (by omega) T;have a2:dk e (k+1)*BF n (bk e k) g g<=dk e (k+1)*(x*dk e k):=X5 O (by omega);have a3:dk e (k+1)*(x*dk e k)<=dk e (k+1)*(x*(((2^k:Nat):Int)*dk e (k+1))):=X5 (X5 Q X) (by omega);have a4:x*((2^k:Nat):Int)<=(m:Int)*(m:Int):=by
    have:((2^k:Nat):Int)<=((2^n:Nat):Int):=abP.2 (Yd (by omega) (by omega));exact Int.le_trans (X5 this X) hM
   have a5:x*((2^k:Nat):Int)*(dk e (k+1)*dk e (k+1))<=(m:Int)*(m:Int)*(dk e (k+1)*dk e (k+1)):=Ys a4 (Yj (by omega) (by omega));grind
  have aa:L.natAbs<=m*(dk e (k+1)).toNat:=by
   have b:(m:Int)*dk e (k+1)=((m*(dk e (k+1)).toNat:Nat):Int):=by
    grind
   rw[b]at C;have:=VX C;omega
  -- the other coordinates
  have v: ∀q,k+1+q<=n->2*(dP (fun j=>bk e k k j*g j) (k+1+q)-dk e (k+1)*g k).natAbs<=(dk e (k+1)).toNat*(m*(2^(c+1)-2^(c+1-q))):=fun q=>by
   induction q with
   |zero=>
    intro _;have b:dP (fun j=>bk e k k j*g j) (k+1)=dk e (k+1)*g k:=by
     rw[dP,bJ k (G:=fun _=>0) (fun j hj=>by rw[zq s.1 H (by omega) hj (by omega),abQ]),jT,b7];omega
    grind
   |succ q W=>
    intro hq;have V:=W (by omega);rw[<- aaf,dP];have hx:=ih (n-(k+1+q)-1) (by omega) (k+1+q) (by omega);have ad:=(B.2.2.2 k (by omega)).1 (k+1+q) (by omega) (by omega);have I:=i7 s.1 k (by omega) (fun t U=>H t (by omega)) k (k+1+q) h (by omega);rw[I];rw[show n-(k+1+q)-1=c-1-q by omega]at hx;have u:2^(c+1-q)=2*2^(c+1-(q+1))/\2^(c+1-(q+1))=2*2^(c-1-q):=by
     refine⟨?_,?_⟩
     ·rw[show c+1-q=(c+1-(q+1))+1 by omega,Zd];omega
     rw[show c+1-(q+1)=(c-1-q)+1 by omega,Zd];omega
    have R:2^(c+1-q)<=2^(c+1):=Yd (by omega) (by omega);have hD:(((dk e (k+1)).toNat:Nat):Int)=dk e (k+1):=by omega
    have e5:dP (fun j=>bk e k k j*g j) (k+1+q)+bk e k (k+1+q) k*g (k+1+q)-dk e (k+1)*g k=(dP (fun j=>bk e k k j*g j) (k+1+q)-dk e (k+1)*g k)+bk e k (k+1+q) k*g (k+1+q):=by omega
    rw[e5];generalize dP (fun j=>bk e k k j*g j) (k+1+q)-dk e (k+1)*g k=S at*
    generalize bk e k (k+1+q) k=l at*
    generalize g (k+1+q)=y at*
    generalize(dk e (k+1)).toNat=D at*
    have hl:2*l.natAbs<=D:=by omega
    have ac:2*(l*y).natAbs<=D*(m*2^(c-1-q)):=by
     rw[Y1,<- ZP];exact Yn hl hx
    have E:=aa2 S (l*y);generalize 2^(c-1-q)=P at*
    generalize 2^(c+1)=A at*
    obtain⟨p1,p2⟩:=u;rw[p1,p2]at V R;rw[p2];have h6:D*(m*(A-2*(2*P)))+D*(m*P)<=D*(m*(A-2*P)):=by
     rw[<- ab5,<- ab5];exact XU _ (XU _ (by omega))
    omega
  have o:=v c (by omega);rw[show k+1+c=n by omega,<- Y,show c+1-c=1 by omega]at o;have hD:(((dk e (k+1)).toNat:Nat):Int)=dk e (k+1):=by omega
  have J:0<(dk e (k+1)).toNat:=by omega
  have K:(dk e (k+1)*g k).natAbs=(dk e (k+1)).toNat*(g k).natAbs:=by
   grind
  have E:(dk e (k+1)*g k).natAbs<=L.natAbs+(L-dk e (k+1)*g k).natAbs:=by omega
  rw[K]at E;have u:2^(c+1)=2*2^c:=by omega
  have Z:0<2^c:=YP (by omega);generalize(L-dk e (k+1)*g k).natAbs=r at*
  generalize(dk e (k+1)).toNat=D at*
  generalize(g k).natAbs=z at*
  generalize L.natAbs=w at*
  rw[u]at o;generalize 2^c=P at*
  have h7:2*(m*D)+D*(m*(2*P-2^1))=D*(2*(m*P)):=by
   have b:2*P-2^1=2*(P-1):=by omega
   rw[b];obtain⟨p,rfl⟩: ∃p,P=p+1:=⟨P-1,by omega⟩;grind
  have h8:D*(2*z)<=D*(2*(m*P)):=by
   grind
  have:=aaY h8 J;omega
end
section
variable {n:Nat}
def Kw (a r:Int):Prop:=0<=r/\r*r<=a/\a<(r+1)*(r+1)
theorem pQ {a u:Int} (h:Kw a x):u*u<=a↔ -x<=u/\u<=x:=by
 obtain⟨b,f,g⟩:=h;constructor
 ·intro l;constructor
  ·refine ZQ fun e=>?_
   have:=YG (show x+1<= -u by omega) (show x+1<= -u by omega) (by omega) (by omega);grind
  refine ZQ fun e=>?_
  have:=YG (show x+1<=u by omega) (show x+1<=u by omega) (by omega) (by omega);omega
 rintro⟨j,c⟩;rcases ZM 0 u with h|h
 ·have:=YG c c h b;omega
 have:=YG (show -u<=x by omega) (show -u<=x by omega) (by omega) b;grind
theorem Kw.uniq {a s:Int} (h:Kw a x) (k:Kw a s):x=s:=by
 have b:=(pQ h).1 k.2.1;have c:=(pQ k).1 h.2.1;omega
theorem EO {a:Int} (h:0<=a): ∃r,Kw a r:=by
 obtain⟨m,rfl⟩:=Yg h;clear h
 induction m with
 |zero=>exact⟨0,by grind [Kw]⟩
 |succ m c=>
  obtain⟨r,b,e,f⟩:=c;by_cases h:((m+1:Nat):Int)<(r+1)*(r+1)
  ·exact⟨r,b,by omega,h⟩
  refine⟨r+1,by omega,by omega,?_⟩;grind
open Classical in
noncomputable def isqF (a:Int):Int:=if h: ∃r,Kw a r then Classical.choose h else 0
theorem dH {a:Int} (h:0<=a):Kw a (isqF a):=by
 grind [isqF,EO]
def tc (h:FF) (n k:Nat) (x:Nat->Int):Int:=dP (fun j=>if j<=k then 0 else bk h k k j*x j) n
def kJ (h:FF) (n:Nat) (B:Int) (k:Nat) (x:Nat->Int):Int:=dk h k*(B*dk h (k+1)-BF n (bk h (k+1)) x x)
noncomputable def dR (h:FF) (n:Nat) (B:Int) (k:Nat) (x:Nat->Int):Int:= -((isqF (kJ h n B k x)+tc h n k x)/dk h (k+1))
noncomputable def eQ (h:FF) (n:Nat) (B:Int) (k:Nat) (x:Nat->Int):Int:=(isqF (kJ h n B k x)-tc h n k x)/dk h (k+1)
def fO (h:FF) (n:Nat) (B:Int) (k:Nat) (x:Nat->Int):Prop:=BF n (bk h k) x x<=B*dk h k
theorem AE {k:Nat} (f: ∀i,k<i->i<n->b i=c i):tc e n k b=tc e n k c:=bJ n fun j g=>by
 grind
section
variable {h:FF} (hr:PD h n)
include hr
theorem zr {k i:Nat} (e:k<=n) (b:i<n) (c:m<k):bk h k i m=0:=by
 rw[i7 hr.1 k e (fun t f=>by have:=hr.2 t (by omega);omega) i m b (by omega)];exact lO h c i
theorem y6 {k:Nat} (m:k<=n) {x' y':Nat->Int} (e: ∀i,k<=i->i<n->b i=x' i) (l: ∀i,k<=i->i<n->c i=y' i):BF n (bk h k) b c=BF n (bk h k) x' y':=by
 have z: ∀u:Nat->Int,∀i,i<k->dP (fun j=>bk h k i j*u j) n=0:=fun u i f=>by
  rw[bJ n (G:=fun _=>0*0) fun j _=>by grind [lO],ia,abQ]
 refine bJ n fun i f=>?_
 by_cases g:i<k
 ·simp_all
 grind [bJ,zr]
theorem fO.tail {k:Nat} (c:k<=n) {x':Nat->Int} (e: ∀i,k<=i->i<n->b i=x' i):fO h n x k b↔fO h n x k x':=by
 grind [fO,y6]
theorem yE {k:Nat} (c:k<n) (x:Nat->Int):dP (fun j=>bk h k k j*x j) n=dk h (k+1)*x k+tc h n k x:=by
 have b:=AH (F:=fun j=>if j<=k then 0 else bk h k k j*x j) (G:=fun j=>bk h k k j*x j) c (fun j f e=>by
  grind [zr])
 rw[b,show(if k<=k then 0 else bk h k k k*x k)=(0:Int)from if_pos (XY k)];show tc h n k x+(dk h (k+1)*x k-0)=_;omega
theorem AK {B:Int} {k:Nat} (f:k<n) (e: ∀i,k<i->i<n->b i=c i):kJ h n B k b=kJ h n B k c:=by
 grind [kJ,y6]
theorem GY {k:Nat} (f:k<n) (e: ∀i,k<i->i<n->b i=c i):dR h n x k b=dR h n x k c:=by
 grind [dR,AK,AE]
theorem GP {k:Nat} (f:k<n) (e: ∀i,k<i->i<n->b i=c i):eQ h n x k b=eQ h n x k c:=by
 grind [eQ,AK,AE]
theorem yK {k:Nat} (e:k<n) (c:fO h n x (k+1) b):0<=kJ h n x k b:=by
 have:0<dk h k:=gR fun t f=>hr.2 t (by omega)
 exact Yj (by omega) (by grind [fO])
theorem xY {k:Nat} (c:k<n) (g:fO h n x (k+1) b):fO h n x k b↔dR h n x k b<=b k/\b k<=eQ h n x k b:=by
 have e:0<dk h (k+1):=hr.2 k c;have key:=lw hr.1 hr.2 b c;rw[yE hr c]at key;have j:=dH (yK hr c g);have f:fO h n x k b↔(dk h (k+1)*b k+tc h n k b)*(dk h (k+1)*b k+tc h n k b)<=kJ h n x k b:=by
  unfold fO kJ;have l:dk h (k+1)*BF n (bk h k) b b<=dk h (k+1)*(x*dk h k)↔BF n (bk h k) b b<=x*dk h k:=⟨fun h=>aap h e,fun h=>X5 h (by omega)⟩;grind
 rw[f,pQ j];unfold dR eQ;generalize isqF (kJ h n x k b)=r at*
 generalize tc h n k b=s at*
 generalize dk h (k+1)=d at*
 have m:b k<=(r-s)/d↔b k*d<=r-s:=ZL e;have o: -(b k)<=(r+s)/d↔ -(b k)*d<=r+s:=ZL e;grind
theorem fO.up {k:Nat} (e:k<n) (f:fO h n x k b):fO h n x (k+1) b:=by
 have m:0<dk h (k+1):=hr.2 k e;have c:0<dk h k:=gR fun t o=>hr.2 t (by omega)
 have key:=lw hr.1 hr.2 b e;generalize dP (fun j=>bk h k k j*b j) n=L at*
 have g:0<=L*L:=by
  rcases ZM 0 L with h|h
  ·exact Yj h h
  exact Yx h h
 unfold fO at*
 have l:=X5 f (show 0<=dk h (k+1) by omega);refine aap (a:=dk h k) ?_ c;grind
theorem fO.ups {k:Nat} (c:fO h n x k b): ∀m,k+m<=n->fO h n x (k+m) b
 |0,_=>c
 |m+1,e=>(fO.ups c m (by omega)).up hr (by omega)
end
theorem pm:fO e n x 0 b↔BF n e b b<=x:=by
 unfold fO;rw[co,Int.mul_one,iF (fun i j _ _=>cK e i j) (fun _ _=>rfl) (fun _ _=>rfl)]
theorem jl (c:PD e n) (j:0<=x):fO e n x n b:=by
 have z:BF n (bk e n) b b=0:=by
  rw[y6 c (XY n) (x':=fun _=>0) (y':=fun _=>0) (fun i f g=>by omega) (fun i f g=>by omega)];grind [ny]
 have l:0<dk e n:=gR fun t m=>c.2 t (by omega)
 unfold fO;rw[z];exact Yj j (by omega)
/-! Lists. -/
def aR (n:Nat) (y:List Int):Nat->Int:=fun i=>if i+y.length<n then 0 else y.getD (i+y.length-n) 0
theorem Dh {k i:Nat} (e:f.length+(k+1)=n) (b:k<i):aR n (x::f) i=aR n f i:=by
 grind [aR]
theorem Di {k:Nat} (b:f.length+(k+1)=n):aR n (x::f) k=x:=by
 grind [aR]
theorem Rr {k:Nat}: ∀{p:List Int},p.length=k->f.length+k=n-> ∀i,k<=i->aR n (p++f) i=aR n f i
 |p,e,c,i,b=>by
  grind [aR]
theorem qJ (b:f.length=n) (i:Nat):aR n f i=f.getD i 0:=by
 grind [aR]
def rng (a b:Int):List Int:=(List.range (b-a+1).toNat).map fun i:Nat=>a+(i:Int)
theorem l5 {a c:Int}:c∈rng a x↔a<=c/\c<=x:=by
 simp only[rng,XR,Yv];constructor
 ·omega
 rintro⟨e,f⟩;exact⟨(c-a).toNat,by omega,by omega⟩
noncomputable def fm (h:FF) (n:Nat) (B:Int):Nat->List Int->List (List Int)
 |0,y=>[y]
 |k+1,y=>(rng (dR h n B k (aR n y)) (eQ h n B k (aR n y))).flatMap fun c=>fm h n B k (c::y)
theorem zW {h:FF} (g:PD h n) {B:Int}: ∀k (y:List Int),y.length+k=n->fO h n B k (aR n y)-> ∀z,z∈fm h n B k y↔(∃p,p.length=k/\z=p++y)/\BF n h (aR n z) (aR n z)<=B
 |0,y,o,l,z=>by
  rw[fm,XT];constructor
  ·rintro rfl;exact⟨⟨[],rfl,rfl⟩,pm.1 l⟩
  grind
 |k+1,y,o,l,z=>by
  have step: ∀c,fO h n B k (aR n (c::y))↔dR h n B k (aR n y)<=c/\c<=eQ h n B k (aR n y):=fun c=>by
   have w: ∀i,k<i->i<n->aR n (c::y) i=aR n y i:=fun i r _=>Dh o r
   grind [xY,fO.tail,Di,GY,GP]
  rw[fm,abb];constructor
  ·rintro⟨c,s,v⟩;obtain⟨⟨p,m,rfl⟩,b⟩:=(zW g k (c::y) (by grind) ((step c).2 (l5.1 s)) z).1 v;exact⟨⟨p++[c],by simp[m],by simp⟩,b⟩
  rintro⟨⟨p,m,rfl⟩,b⟩;obtain⟨q,c,rfl⟩: ∃q c,p=q++[c]:=by
   have f:p≠[]:=fun h=>by grind
   exact⟨p.dropLast,p.getLast f,(List.dropLast_concat_getLast f).symm⟩
  have u:q.length=k:=by grind
  have e:q++[c]++y=q++c::y:=by simp
  rw[e]at b⊢;have t:(c::y).length+k=n:=by grind
  have j:fO h n B k (aR n (c::y)):=by
   have:=fO.ups g (pm.2 b) k (by omega);grind [fO.tail,Rr]
  exact⟨c,l5.2 ((step c).1 j),(zW g k (c::y) t j _).2 ⟨⟨q,u,rfl⟩,b⟩⟩
theorem Qg (g:PD e n) (j:0<=x) (z:List Int):z∈fm e n x n []↔z.length=n/\BF n e (fun i=>z.getD i 0) (fun i=>z.getD i 0)<=x:=by
 rw[zW g n [] (by simp) (jl g j)];constructor
 ·rintro⟨⟨p,f,rfl⟩,b⟩;rw[YI]at b⊢;exact⟨f,by rwa[show aR n p=fun i=>p.getD i 0 from funext (qJ f)]at b⟩
 rintro⟨c,b⟩;exact⟨⟨z,c,by simp⟩,by rwa[show aR n z=fun i=>z.getD i 0 from funext (qJ c)]⟩
end
theorem dX (l:List Nat) (r:l.length<=1073741824):CallC prog 167 [cL l] ⟨[],cL (dn l)⟩:=by
 refine aB func167 rfl ntmps167 (aC (k:=?_));refine ai (aG (G:={n:Nat//n<=l.length/\dn l=dn (l.take n)}) (fun n=>⟨(cL (l.take n.1)::j16 (j4 ([]))),Hm []⟩) (fun n=>n.1) ⟨l.length,XY _,by simp⟩ ?_ ?_)
 ·refine aj trivial ?_;simp[wk]
 rintro⟨n,s,p⟩;simp only;have c:(l.take n).length=n:=by simp;omega
 by_cases o:0<n
 ·obtain⟨a,q⟩:=getElem?_of_lt (l:=l) (k:=n-1) (by omega);have j:((n:Int)-1).toNat=n-1:=by omega
  have f:(l.take n)[n-1]?=some a:=by grind
  have m:l.take n=l.take (n-1)++[a]:=by
   have:=aaC (i:=n-1) (l:=l) (by omega);grind
  refine ai (aK (aE c (aE j f)) (k:=?_));refine aW rfl (fun e=>ak ?_) (fun e=>be ?_)
  ·have h:a=0:=by grind
   refine am (dU (aE c (aE j (rC zF))) (k:=?_));refine⟨⟨n-1,by omega,?_⟩,by simp only;omega,aj trivial ?_⟩
   ·simp_all[nw]
   simp[wk,List.take_take,aav (show n-1<=n by omega)]
  have h:a≠0:=by grind
  have b:dn l=l.take n:=by grind [yU]
  show bs _ _ _ _;refine ar (k:=aF (aE @results167 b))
 have g:n=0:=by omega
 subst g;have b:dn l=l.take 0:=by grind [dn]
 refine ai (ar (k:=aW rfl (fun e=>by cases e) (fun e=>be (bH (k:=aF (aE @results167 b))))))
theorem d7 (neg:Bool) (n:Nat):CallC prog 164 [.raw (.bool neg),cL (aq n)] ⟨[],tZ (fH neg n)⟩:=by
 by_cases b:n=0
 ·subst b;rw[cf,show tZ (fH neg 0)= .agg [.p (.raw (.bool false)),.p (.sl (ls fU []))] by
   grind [fH,cf]]
  refine aB func164 rfl ntmps164 (aC (k:=ai (ar (k:=aD rfl (ar (k:=?_))))));refine aZ ⟨.inr rfl,?_⟩;refine⟨_,gN 4,lj (d:=1000) rfl ?_ rfl⟩;simp(disch:=omega) only[kd,results164,zH,zO,DH,F5,aa]
 have e:=fg (n:=n);have c:(aq n).length≠0:=by omega
 rw[show tZ (fH neg n)= .agg [.p (.raw (.bool neg)),.p (.sl (ls fU (aq n)))] by
  grind [qv,Hr]]
 refine aB func164 rfl ntmps164 (aC (k:=ai (ar (k:=ao rfl (ak (ar (k:=aF @results164)))))))
end Go.Proofs.YtalmoejhjceflaaGreat
