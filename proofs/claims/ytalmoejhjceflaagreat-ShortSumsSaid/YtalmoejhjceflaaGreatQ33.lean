/-
  Part 34 of a proof (walks and plain facts).
-/
import Derived.Test.YtalmoejhjceflaaGreatQ32
import Derived.Lib.SmallJoins
set_option linter.all false
set_option maxRecDepth 100000
set_option maxHeartbeats 64000000
open Nat renaming reduceAdd → aa
open Nat renaming reduceEqDiff → ab
namespace Go.Proofs.YtalmoejhjceflaaGreat
open Go.RowKit Go.Proofs.Tryz
variable {n m j c:Nat} {b:FF} {e:List Int} {w:World} {f:TypeId} {g:Value} {P:Program}
theorem Ve {c z:Code} {Q:Exit->AS->List PV->Prop} {s S:AS} {g cs1:List PV} (m:eH P n f c (qz (fun j k=>bJ j S/\k=cs1) Q) s g) (o:eH P n f z Q S cs1):eH P n f c (qz (eH P n f z Q) Q) s g:=m.mono fun e j k h=>by
 cases e with
 |normal=>
  obtain⟨l,rfl⟩:=h;exact eH.weak l o
 |_=>exact h
def nI (b:Nat) (L:List Int) (n:Nat):(Nat->Nat->Int)×Nat:=
 if b%8<4 then tf L (ja L 0 6,mW L 0 n) n
 else if b%8=4 then(upd (lE false n n) 0 0 (lE false n n 0 0+(pA L 0 3:Int)),iS L 0)
 else if b%8=5 then(upd (lE true n n) (n-1) (n-1) (lE true n n (n-1) (n-1)+(pA L 0 2:Int)),iS L 0)
 else if b%8=6 then(ja L 0 9,mW L 0 n)
 else(ja L 0 1,mW L 0 n)
open Classical in
noncomputable def pp (b:Nat) (L:List Int) (n:Nat):Nat->Nat->Int:=if GoodP n (nI b L n).1 then(nI b L n).1 else ja L (nI b L n).2 2
theorem wK (f:FF) (i j:Nat) (v:Int) (a b:Nat):upd f i j v a b=v\/upd f i j v a b=f a b:=by
 grind [Uy,Li]
def IE (f:FF):Prop:= ∀a b,-9<=f a b/\f a b<=9
theorem IE.i64 (h:IE b) (a c:Nat):I64 (b a c):=by have:=h a c;exact⟨by omega,by omega⟩
theorem IE.upd (h:IE b) {i:Nat} {v:Int} (g: -9<=v) (l:v<=9):IE (Go.Proofs.YtalmoejhjceflaaGreat.upd b i n v):=fun a c=>by
 rcases wK b i n v a c with e|e
 ·omega
 rw[e];exact h a c
theorem Jq {a:Nat} (b:0<m) (c:m<=9):IE (ja e a m):=fun i j=>by
 unfold ja;split
 ·have:=oq (n:=m) e (mW e a i) b;omega
 omega
theorem abK (x:Int): -2<=Int.tmod x 3/\Int.tmod x 3<=2:=by
 grind
theorem RW {L:List Int} {i:Nat} {s:(Nat->Nat->Int)×Nat} (h:IE s.1): ∀k,IE (UN L i s k).1
 |0=>h
 |k+1=>by
  have:=abK (L.getD (UN L i s k).2 0);exact((RW h k).upd (by omega) (by omega)).upd (by omega) (by omega)
theorem RV {L:List Int} {s:(Nat->Nat->Int)×Nat} (h:IE s.1): ∀i,IE (tf L s i).1
 |0=>h
 |i+1=>RW (RV h i) i
theorem se (c:Bool) (n:Nat): ∀i a b,-1<=lE c n i a b/\lE c n i a b<=2
 |0,_,_=>by simp[lE]
 |i+1,a,b=>by
  have h:=se c n i;have u: ∀(f:FF) (i j:Nat) (v:Int),(∀a b,-1<=f a b/\f a b<=2)-> -1<=v/\v<=2-> ∀a b,-1<=upd f i j v a b/\upd f i j v a b<=2:=fun f i j v e g a b=>by
   grind [wK]
  unfold lE;grind
theorem MJ (c:Nat) (L:List Int) (n:Nat):IE (nI c L n).1:=by
 have f:=oq (n:=3) L 0 (by omega);have e:=oq (n:=2) L 0 (by omega);have g:=se false n n 0 0;have h:=se true n n (n-1) (n-1);unfold nI;split
 ·grind [RV,Jq]
 split
 ·exact IE.upd (fun a b=>by have:=se false n n a b;omega) (by omega) (by omega)
 split
 ·exact IE.upd (fun a b=>by have:=se true n n a b;omega) (by omega) (by omega)
 grind [Jq]
theorem WM (b:Nat) (L:List Int) (n:Nat):(nI b L n).2<=L.length:=by
 grind [nI,JR,DC,wq]
abbrev tL (c b:Nat) (L B:List Int):TV:= .agg [.p (.raw (.int .u8 (c:Int))),.p (.raw (.int .u8 (b:Int))),.p (.sl (ls f8 L)),.p (.sl (ls f8 B))]
theorem Y1 (o e:Nat) (L B:List Int) (g n:Nat) (w:I8 L) (P:o<=255) (N:e<=255) (V:1<=g) (W:g<=8) (hn:n=1+o%g):
  CallC prog 35 [tL o e L B,.raw (.int .i64 (g:Int))] ⟨[],cw (mat n n (pp e L n))⟩:=by
 have C:1<=n:=by omega
 have q:n<=8:=by have:=acM o (show 0<g by omega);omega
 have Q:Int.tmod (o:Int) (g:Int)=((o%g:Nat):Int):=(aeY o g).symm;have R:Int.tmod (e:Int) 8=((e%8:Nat):Int):=(aeY e 8).symm;have T:1+((o%g:Nat):Int)=(n:Int):=by omega
 refine ax func35 rfl ntmps35 (jS @tL.eq_1 (k:=ar (k:=Qo 11 (cs:=Pr L 0) rfl fun b=>?_)));refine eH.weak (aj (tm:=(jk::rN g::.one (.ptr 2 0 0 0)::jk::jk::dC b::j16 (j16 (j16 (j16 (j4 ([]))))))) (l:=[(2,[⟨24,4,[[.p (.raw (.int .u8 (o:Int))),.p (.raw (.int .u8 (e:Int))),.p (.sl (ls f8 L)),.p (.sl (ls f8 B))]]⟩])]) ⟨rfl,trivial⟩ (by simp[wk,xI,kU])) ?_;refine mm (aC @dC.eq_1 (aC Q T)) (k:=dy (k:=cd (mm R (k:=?_))));have t:=MJ e L n;have u:=WM e L n;refine Ve (S:=⟨(j4 (jk::dC b::rN n::cw (mat n n (nI e L n).1)::j16 (j16 (j16 (j16 (jk::jk::[])))))),Hm []⟩) (cs1:=Pr L (nI e L n).2) ?_ ?_
 ·have U:=acM e (show 0<8 by omega);have F:e%8<4->nI e L n=tf L (ja L 0 6,mW L 0 n) n:=fun h=>by grind [nI]
  have D:=N9 b L 0 n w (by omega) q;have J:=LN n false q;have M:=LN n true q;have y:=Do b L 0 3 w (by omega) (by omega) (by omega);have x:=Do b L 0 2 w (by omega) (by omega) (by omega);have A:=oC b L 0 n 9 w (by omega) q (by omega) (by omega);have z:=oC b L 0 n 1 w (by omega) q (by omega) (by omega);rw[show((3:Nat):Int)=3 from rfl]at y;rw[show((2:Nat):Int)=2 from rfl]at x;rw[show((9:Nat):Int)=9 from rfl]at A;rw[show((1:Nat):Int)=1 from rfl]at z;have q3:=oq (n:=3) L 0 (by omega);have q2:=oq (n:=2) L 0 (by omega);have r1:=se false n n 0 0;have r2:=se true n n (n-1) (n-1);have Z:((n:Int)-1).toNat=n-1:=by omega
  have x1:=cf (n:=n) (i:=0) 35 n (by omega);have x2:=ff (n:=n) n (lE false n n) (i:=0) (by omega);have x3:=aB (m:=n) (lE false n n 0) (j:=0) (by omega);have y1:=cf (n:=n) (i:=n-1) 48 n (by omega);have y2:=ff (n:=n) n (lE true n n) (i:=n-1) (by omega);have y3:=aB (m:=n) (lE true n n (n-1)) (j:=n-1) (by omega);have v:e%8=0\/e%8=1\/e%8=2\/e%8=3\/e%8=4\/e%8=5\/e%8=6\/e%8=7:=by omega
  rcases v with s|s|s|s|s|s|s|s
  ·have r:e%8=0:=by omega
   rw[r,show((0:Nat):Int)=0 from rfl];refine dx (cd (dy (k:=jf rfl (kh (jf rfl ?_)))));refine iX 2 D [] [] (by kernel_rfl) (by rfl) (by rfl) fun _ K=>?_;simp only[kd,dC,aa,ab];apply K
   rw[F (by omega)];refine⟨(aj (tm:=(j4 (jk::dC b::rN n::.one (.sl 31 0 0 n)::j16 (j16 (j16 (j16 (jk::jk::[]))))))) (l:=[(31,mA 31 n n ((tf L (ja L 0 6,mW L 0 n) n).1))]) ⟨eh 0 31 n n _,trivial⟩ (by simp[wk])).trans ((bF 31 (gu rfl)).trans (aj (tm:=(j4 (jk::dC b::rN n::cw (mat n n ((tf L (ja L 0 6,mW L 0 n) n).1))::j16 (j16 (j16 (j16 (jk::jk::[]))))))) (l:=[]) trivial (by
    simp[wk];exact⟨rfl,rfl,(xF (H:=Hm [(31,mA 31 n n ((tf L (ja L 0 6,mW L 0 n) n).1))]) (d:=31) (n:=n) (c:=n) (f:=(tf L (ja L 0 6,mW L 0 n) n).1) rfl).symm⟩))),rfl⟩
  ·have r:e%8=1:=by omega
   rw[r,show((1:Nat):Int)=1 from rfl];refine dx (cd (dy (k:=cK rfl (dy (k:=jf rfl (kh (jf rfl ?_)))))));refine iX 2 D [] [] (by kernel_rfl) (by rfl) (by rfl) fun _ K=>?_;simp only[kd,dC,aa,ab];apply K
   rw[F (by omega)];refine⟨(aj (tm:=(j4 (jk::dC b::rN n::.one (.sl 31 0 0 n)::j16 (j16 (j16 (j16 (jk::jk::[]))))))) (l:=[(31,mA 31 n n ((tf L (ja L 0 6,mW L 0 n) n).1))]) ⟨eh 0 31 n n _,trivial⟩ (by simp[wk])).trans ((bF 31 (gu rfl)).trans (aj (tm:=(j4 (jk::dC b::rN n::cw (mat n n ((tf L (ja L 0 6,mW L 0 n) n).1))::j16 (j16 (j16 (j16 (jk::jk::[]))))))) (l:=[]) trivial (by
    simp[wk];exact⟨rfl,rfl,(xF (H:=Hm [(31,mA 31 n n ((tf L (ja L 0 6,mW L 0 n) n).1))]) (d:=31) (n:=n) (c:=n) (f:=(tf L (ja L 0 6,mW L 0 n) n).1) rfl).symm⟩))),rfl⟩
  ·have r:e%8=2:=by omega
   rw[r,show((2:Nat):Int)=2 from rfl];refine dx (cd (dy (k:=cK rfl (dy (k:=cK rfl (dy (k:=jf rfl (kh (jf rfl ?_)))))))));refine iX 2 D [] [] (by kernel_rfl) (by rfl) (by rfl) fun _ K=>?_;simp only[kd,dC,aa,ab];apply K
   rw[F (by omega)];refine⟨(aj (tm:=(j4 (jk::dC b::rN n::.one (.sl 31 0 0 n)::j16 (j16 (j16 (j16 (jk::jk::[]))))))) (l:=[(31,mA 31 n n ((tf L (ja L 0 6,mW L 0 n) n).1))]) ⟨eh 0 31 n n _,trivial⟩ (by simp[wk])).trans ((bF 31 (gu rfl)).trans (aj (tm:=(j4 (jk::dC b::rN n::cw (mat n n ((tf L (ja L 0 6,mW L 0 n) n).1))::j16 (j16 (j16 (j16 (jk::jk::[]))))))) (l:=[]) trivial (by
    simp[wk];exact⟨rfl,rfl,(xF (H:=Hm [(31,mA 31 n n ((tf L (ja L 0 6,mW L 0 n) n).1))]) (d:=31) (n:=n) (c:=n) (f:=(tf L (ja L 0 6,mW L 0 n) n).1) rfl).symm⟩))),rfl⟩
  ·have r:e%8=3:=by omega
   rw[r,show((3:Nat):Int)=3 from rfl];refine dx (cd (dy (k:=cK rfl (dy (k:=cK rfl (dy (k:=cK rfl (xB (k:=jf rfl ?_)))))))));refine iX 2 D [] [] (by kernel_rfl) (by rfl) (by rfl) fun _ K=>?_;simp only[kd,dC,aa,ab];apply K
   rw[F (by omega)];refine⟨(aj (tm:=(j4 (jk::dC b::rN n::.one (.sl 31 0 0 n)::j16 (j16 (j16 (j16 (jk::jk::[]))))))) (l:=[(31,mA 31 n n ((tf L (ja L 0 6,mW L 0 n) n).1))]) ⟨eh 0 31 n n _,trivial⟩ (by simp[wk])).trans ((bF 31 (gu rfl)).trans (aj (tm:=(j4 (jk::dC b::rN n::cw (mat n n ((tf L (ja L 0 6,mW L 0 n) n).1))::j16 (j16 (j16 (j16 (jk::jk::[]))))))) (l:=[]) trivial (by
    simp[wk];exact⟨rfl,rfl,(xF (H:=Hm [(31,mA 31 n n ((tf L (ja L 0 6,mW L 0 n) n).1))]) (d:=31) (n:=n) (c:=n) (f:=(tf L (ja L 0 6,mW L 0 n) n).1) rfl).symm⟩))),rfl⟩
  ·have r:e%8=4:=by omega
   rw[r,show((4:Nat):Int)=4 from rfl];refine dx (cd (dy (k:=cK rfl (dy (k:=cK rfl (dy (k:=cK rfl (xB (k:=cK rfl (dy (k:=jf rfl (Yh [⟨1,_,_,_,J⟩] (k:=?_)))))))))))));refine eH.weak (aj (tm:=(j4 (jk::dC b::rN n::.one (.sl 35 0 0 n)::j16 (j16 (j16 (j16 (jk::jk::[]))))))) (l:=[(35,mA 35 n n (lE false n n))]) ⟨eh 0 35 n n _,trivial⟩ (by simp[wk])) ?_;refine lS cu 6 y [] [] (by kernel_rfl) (by kernel_rfl) (by rfl) (by rfl) fun _ K=>?_;simp(disch:=omega) only[kd,dC,aa,Int.reduceToNat,x1,x2,x3,aL,jr];apply K
   rw[show nI e L n=(upd (lE false n n) 0 0 (lE false n n 0 0+(pA L 0 3:Int)),iS L 0) by grind [nI]];refine⟨(aj (tm:=(j4 (jk::dC b::rN n::.one (.sl 35 0 0 n)::j16 (j16 (j16 (j16 (jk::jk::[]))))))) (l:=[(35,mA 35 n n (upd (lE false n n) 0 0 (lE false n n 0 0+(pA L 0 3:Int))))]) ⟨rfl,trivial⟩ (by simp[wk])).trans ((bF 35 (gu rfl)).trans (aj (tm:=(j4 (jk::dC b::rN n::cw (mat n n (upd (lE false n n) 0 0 (lE false n n 0 0+(pA L 0 3:Int))))::j16 (j16 (j16 (j16 (jk::jk::[]))))))) (l:=[]) trivial (by
    simp[wk];exact⟨rfl,rfl,(xF (H:=Hm [(35,mA 35 n n (upd (lE false n n) 0 0 (lE false n n 0 0+(pA L 0 3:Int))))]) (d:=35) (n:=n) (c:=n) (f:=upd (lE false n n) 0 0 (lE false n n 0 0+(pA L 0 3:Int))) rfl).symm⟩))),rfl⟩
  ·have r:e%8=5:=by omega
   rw[r,show((5:Nat):Int)=5 from rfl];refine dx (cd (dy (k:=cK rfl (dy (k:=cK rfl (dy (k:=cK rfl (xB (k:=cK rfl (dy (k:=cK rfl (dy (k:=jf rfl (Yh [⟨1,_,_,_,M⟩] (k:=?_)))))))))))))));refine eH.weak (aj (tm:=(j4 (jk::dC b::rN n::.one (.sl 48 0 0 n)::j16 (j16 (j16 (j16 (jk::jk::[]))))))) (l:=[(48,mA 48 n n (lE true n n))]) ⟨eh 0 48 n n _,trivial⟩ (by simp[wk])) ?_;refine lS cu 10 x [] [] (by kernel_rfl) (by kernel_rfl) (by rfl) (by rfl) fun _ K=>?_;simp(disch:=omega) only[kd,dC,aa,aL,Z,y1,y2,y3,jr];apply K
   rw[show nI e L n=(upd (lE true n n) (n-1) (n-1) (lE true n n (n-1) (n-1)+(pA L 0 2:Int)),iS L 0) by grind [nI]];refine⟨(aj (tm:=(j4 (jk::dC b::rN n::.one (.sl 48 0 0 n)::j16 (j16 (j16 (j16 (jk::jk::[]))))))) (l:=[(48,mA 48 n n (upd (lE true n n) (n-1) (n-1) (lE true n n (n-1) (n-1)+(pA L 0 2:Int))))]) ⟨rfl,trivial⟩ (by simp[wk])).trans ((bF 48 (gu rfl)).trans (aj (tm:=(j4 (jk::dC b::rN n::cw (mat n n (upd (lE true n n) (n-1) (n-1) (lE true n n (n-1) (n-1)+(pA L 0 2:Int))))::j16 (j16 (j16 (j16 (jk::jk::[]))))))) (l:=[]) trivial (by
    simp[wk];exact⟨rfl,rfl,(xF (H:=Hm [(48,mA 48 n n (upd (lE true n n) (n-1) (n-1) (lE true n n (n-1) (n-1)+(pA L 0 2:Int))))]) (d:=48) (n:=n) (c:=n) (f:=upd (lE true n n) (n-1) (n-1) (lE true n n (n-1) (n-1)+(pA L 0 2:Int))) rfl).symm⟩))),rfl⟩
  ·have r:e%8=6:=by omega
   rw[r,show((6:Nat):Int)=6 from rfl];refine dx (cd (dy (k:=cK rfl (dy (k:=cK rfl (dy (k:=cK rfl (xB (k:=cK rfl (dy (k:=cK rfl (dy (k:=cK rfl (dy (k:=jf rfl ?_)))))))))))))));refine iX 2 A [] [] (by kernel_rfl) (by rfl) (by rfl) fun _ K=>?_;simp only[kd,dC,aa,ab];apply K
   rw[show nI e L n=(ja L 0 9,mW L 0 n) by grind [nI]];refine⟨(aj (tm:=(j4 (jk::dC b::rN n::.one (.sl 66 0 0 n)::j16 (j16 (j16 (j16 (jk::jk::[]))))))) (l:=[(66,mA 66 n n (ja L 0 9))]) ⟨eh 0 66 n n _,trivial⟩ (by simp[wk])).trans ((bF 66 (gu rfl)).trans (aj (tm:=(j4 (jk::dC b::rN n::cw (mat n n (ja L 0 9))::j16 (j16 (j16 (j16 (jk::jk::[]))))))) (l:=[]) trivial (by
    simp[wk];exact⟨rfl,rfl,(xF (H:=Hm [(66,mA 66 n n (ja L 0 9))]) (d:=66) (n:=n) (c:=n) (f:=ja L 0 9) rfl).symm⟩))),rfl⟩
  have r:e%8=7:=by omega
  rw[r,show((7:Nat):Int)=7 from rfl];refine dx (cd (dy (k:=cK rfl (dy (k:=cK rfl (dy (k:=cK rfl (xB (k:=cK rfl (dy (k:=cK rfl (dy (k:=cK rfl (dy (k:=cK rfl ?_)))))))))))))));refine iX 2 z [] [] (by kernel_rfl) (by rfl) (by rfl) fun _ K=>?_;simp only[kd,dC,aa,ab];apply K
  rw[show nI e L n=(ja L 0 1,mW L 0 n) by grind [nI]];refine⟨(aj (tm:=(j4 (jk::dC b::rN n::.one (.sl 23 0 0 n)::j16 (j16 (j16 (j16 (jk::jk::[]))))))) (l:=[(23,mA 23 n n (ja L 0 1))]) ⟨eh 0 23 n n _,trivial⟩ (by simp[wk])).trans ((bF 23 (gu rfl)).trans (aj (tm:=(j4 (jk::dC b::rN n::cw (mat n n (ja L 0 1))::j16 (j16 (j16 (j16 (jk::jk::[]))))))) (l:=[]) trivial (by
   simp[wk];exact⟨rfl,rfl,(xF (H:=Hm [(23,mA 23 n n (ja L 0 1))]) (d:=23) (n:=n) (c:=n) (f:=ja L 0 1) rfl).symm⟩))),rfl⟩
 generalize X:nI e L n=Y at*
 obtain⟨f,p⟩:=Y;simp only at t u⊢;have E:pp e L n=(open Classical in if GoodP n f then f else ja L p 2):=by grind [pp]
 by_cases G:GoodP n f
 ·rw[if_pos G]at E;rw[E];have I:=RN n f C q t.i64 true (by simp[G]);refine cd (QG [⟨1,_,_,_,I⟩] @dC.eq_1 (k:=cK rfl (kh (dy (k:=?_)))));refine n7 ⟨.inr rfl,b8 rfl ?_ rfl⟩;simp(disch:=omega) only[kd,results35,cw]
 rw[if_neg G]at E;rw[E];have I:=RN n f C q t.i64 false (by simp[G]);have O:=oC b L p n 2 w u q (by omega) (by omega);rw[show((2:Nat):Int)=2 from rfl]at O;refine cd (QG [⟨1,_,_,_,I⟩] @dC.eq_1 (k:=jf rfl ?_));refine vS 2 O [] [] (by kernel_rfl) (by rfl) (by rfl) fun _ K=>?_;simp only[kd,dC,aa];apply K
 refine eH.weak (aj (tm:=(j4 (.one (.sl 72 0 0 n)::j16 (j16 (j16 (j16 (j4 (jk::[])))))))) (l:=[(72,mA 72 n n (ja L p 2))]) ⟨eh 0 72 n n _,trivial⟩ (by simp[wk])) ?_;refine eH.weak ((bF 72 (gu rfl)).trans (aj (tm:=(j4 (cw (mat n n (ja L p 2))::j16 (j16 (j16 (j16 (j4 (jk::[])))))))) (l:=[]) trivial (by
  simp[wk];grind [xF,Hm]))) ?_
 refine n7 ⟨.inr rfl,b8 rfl ?_ rfl⟩;simp(disch:=omega) only[kd,results35,cw]
theorem Qh (n c:Nat) (f:FF) (m:1<=n) (B:n<=16) (p:1<=c) (x:c<=16) (y: ∀i j:Nat,i<n->j<c->I64 (f i j)):
  CallC prog 58 [dr (mat n c f)] ⟨mA 0 n c f,ZY n true⟩:=by
 have u:=tp (mat n c f);rw[jB (oP f m B p x),aU,jq f m]at u;refine ax func58 rfl ntmps58 (aA (k:=bj [⟨1,_,_,_,u⟩] (k:=ai (bi (k:=ao rfl (ak (ar (k:=ai (bi (k:=?_))))))))));refine ay (G:=fY n) (fun g=>⟨(dr (mat n c f)::j4 (.raw (.int .i64 (c:Int))::jk::.one (.sl 21 0 0 n)::j4 (j4 (j4 (jk::jk::jk::rN n::rN g.i::j16 (j16 (j4 (jk::jk::[])))))))),Hm [(21,kI 21 n c g.i (part f g.i 0))]⟩) (fun g=>n-g.i) ⟨0,by omega⟩ ?_ ?_
 ·refine aj ⟨?_,trivial⟩ ?_
  ·rfl
  simp[wk]
 rintro⟨i,z⟩;simp only;by_cases o:i<n
 ·have C:=bD c f o;have D:=D2 (i:=i) (n:=n) 21 c o;have J:=qa (i:=i) (n:=n) 21 c z;have E:=aU i c (part f i 0);have F:=xZ (i:=i) (n:=n) (c:=c) 21 (part f i 0) o (fun j A=>by grind [part]);have w:=zV (i:=i+1) (k:=i) (n:=n) 21 c (by omega);have K:=qa (i:=i+1) (n:=n) 21 c (by omega);have L:=ff (n:=i+1) c (part f i 0) (i:=i) (by omega);refine ar (k:=aV rfl (ai (am (bi (k:=aH (aC D (aC @acX (aC @aeu E))) (k:=?_))))));refine bA.weak (aj (tm:=(dr (mat n c f)::j4 (.raw (.int .i64 (c:Int))::jk::.one (.sl 21 0 0 n)::rN i::j4 (j4 (j4 (jk::jk::rN n::rN i::j16 (j16 (j4 (jk::jk::[]))))))))) (l:=[(21,kI 21 n c (i+1) (part f i 0))]) ⟨?_,trivial⟩ (by simp[wk])) ?_
  ·first|exact F|rfl
  refine aH w (k:=?_);refine ay (G:=fY c) (fun g=>⟨(dr (mat n c f)::j4 (.raw (.int .i64 (c:Int))::jk::.one (.sl 21 0 0 n)::rN i::j4 (j4 (j4 (jk::jk::rN n::rN i::j4 (j4 (jk::jk::jk::rN c::rN g.i::j16 (j4 (j4 (jk::[])))))))))),Hm [(21,kI 21 n c (i+1) (part f i g.i))]⟩) (fun g=>c-g.i) ⟨0,by omega⟩ ?_ ?_
  ·refine aj ⟨rfl,trivial⟩ ?_;simp[wk]
  rintro⟨j,A⟩;simp only;by_cases h:j<c
  ·have s:=aB (f i) h;have v:=y i j o h;have t:=nY (f i j) (v.sz (by omega));rw[ky,if_pos (show -9223372036854775808<=f i j/\f i j<=9223372036854775807 from v)]at t;have H:=ff (n:=i+1) c (part f i j) (i:=i) (by omega);have I:=aB (part f i j i) h;refine ar (k:=aV rfl (ai (am (bi (k:=cj [⟨7,_,_,_,t⟩] (aC C s) (k:=ai (bi (k:=ao rfl (ak (dF (aC w (aC H (aC I @jr))) (k:=bu (k:=?_))))))))))));refine⟨⟨j+1,by omega⟩,by grind,aj ⟨?_,trivial⟩ ?_⟩
   ·show _::_=_::_;rw[iQ fun a b _ _=>ik f i j a b]
   simp[wk]
  have r:j=c:=by omega
  subst r;refine ar (k:=aW rfl (bu (k:=?_)));refine⟨⟨i+1,by omega⟩,by grind,aj ⟨?_,trivial⟩ ?_⟩
  ·grind [iQ,jx]
  simp[wk]
 have q:i=n:=by omega
 subst q;refine ar (k:=aW rfl ?_);show bA _ _ _ _;have e:kI 21 i c i (part f i 0)=mA 21 i c f:=by
  grind [iQ,jw]
 rw[e];refine bi (k:=?_);refine aQ ⟨.inr rfl,aas (d:=21) rfl ?_ (by decide)⟩;simp(disch:=omega) only[kd,results58]
structure abR (N B Z n:Nat) (f0 h T:FF) where
 f:Nat->Nat->Int
 t:Nat->Nat->Int
 s:Nat
 adds:Nat
 inv:RedI N B Z n f0 f t s adds
 rch:Rch n f t h T
theorem DZ (a b:Nat):Sz (idF a b) 1:=by grind [idF,kO]
theorem WQ {o:Nat} {f0 t h T:FF} (x:Fh n m j c) (u:1<=o) (v:o<=n) (y:dk f0 o<=10000) (z:Rch o b t h T): ∀s p,RedI n m c o f0 b t s p->RedR h o:=by
 induction z with
 |done b t r=>exact fun s p q=>q.red u y r
 |step b t h T e r _ w=>
  intro s p q;cases e with
  |add i g=>exact w _ _ (q.add x v r).1
  |swp l=>exact w _ _ (q.swap x v r)
theorem Oy {q:Nat} {f0 t:FF} {s r:Nat} (v:Fh n m j c) (h:RedI n m c q f0 b t s r) (y:q<=n) {l:Ch} (x:scanF b q=some l): ∀a g,a<q->g<q->Sz (Yk b l a g) 500:=fun a g z A=>by
 obtain⟨w,u⟩:=gY x;cases l with
 |add i o=>
  have u:i<q:=u;show Sz (QI i o (cF b i o) a g) 500;rcases wK idF o i (cF b i o) a g with e|e
  ·unfold QI;rw[e];exact(h.szc v y u w.1).mono (by have:=v.z4;omega)
  unfold QI;rw[e];exact(DZ a g).mono (by omega)
 |swp p=>exact(DZ _ g).mono (by omega)
theorem ZF (f:FF) {c:Ch} (o:scanF f n=some c):mat n n (oy n f (Yk f c))=mat n n (chF f c):=by
 obtain⟨e,l⟩:=gY o;refine gI fun a b g h=>?_
 cases c with
 |add i j=>exact LU (by have:=e.1;omega) (by have:i<n:=l;have:=e.1;omega) f a b g h
 |swp m=>exact Ra l f a b g h
structure Fu (N B Z n:Nat) (f:FF):Prop where
 good:GoodP n f
 sz: ∀i j,i<n->j<n->Sz (f i j) 400
 st:RedI N B Z n f f idF 0 0
theorem Fu.dk {N B S Z n:Nat} {f:FF} (h:Fh N B S Z) (k:Fu N B Z n f) (b:1<=n):dk f n<=10000:=by
 obtain⟨g,c,e⟩:=k.good;have:=(EA c (n-1) (by omega)).2;grind
theorem Fu.ex {e:Nat} (l:Fh n m j c) (k:Fu n m c e b) (g:1<=e) (o:e<=n): ∃h T,RedR h e/\Rch e b idF h T:=by
 obtain⟨h,T,p⟩:=sT (f0:=b) l o _ b idF 0 0 (acs _) k.st;exact⟨h,T,WQ l g o (k.dk l g) p 0 0 k.st,p⟩
theorem YG (g:1<=n) (l:n<=8) (h:IE b) (e:GoodP n b):Fu 8 bB 41 n b:=
 ⟨e,fun i j _ _=>(h.i64 i j).sz (by omega),RedI.start g l e.1 e.2.1 (fun a c=>by have:=h a c;omega) (fun a c _ _=>DZ a c)⟩
theorem BZ (y:Fh n m j c) (r:Nat) (f h T:FF) (u:1<=r) (z:r<=n) (k:Fu n m c r f) (L:RedR h r) (hr:Rch r f idF h T):
  CallC prog 24 [dr (mat r r f)] ⟨mA 0 r r h,.tup [(false,[.sl 0 0 0 r]),(false,[.p (.sl (ls (fR fZ) (mat r r T)))]),(false,[.p (.raw (.int .i64 0))])]⟩:=by
 have E:r<=8:=acl z y.n8;have R:=k.st;obtain⟨hs,hp,hd⟩:=k.good;have F: ∀i o,i<r->o<r->Sz (f i o) 1024:=fun i o v w=>(k.sz i o v w).mono (by omega)
 obtain⟨e,he,W⟩:=jP r r f u (by omega) u (by omega) F;have O:e=0:=he.2 ⟨rfl,E,hs,hp⟩;subst O;have U:=A8 r f u (by omega) F;rw[decide_eq_true hd]at U;have X:=P7 r r f (by omega) u (by omega) (fun i o v w=>(F i o v w).mono (by omega));have Y:=yz r u (by omega);have Q:=aU r r f;refine ax func24 rfl ntmps24 (aA (k:=ai (bj [⟨1,_,_,_,W⟩] (k:=ar (k:=ao rfl (ak (ai (bj [⟨1,_,_,_,U⟩] (k:=ao rfl (ak (bj [⟨1,_,_,_,X⟩] (k:=dU [⟨2,_,_,_,Y⟩] Q (k:=?_)))))))))))));refine ay (G:=abR n m c r f h T) (fun g=>⟨(j4 (jk::jk::dr (mat r r g.f)::dr (mat r r g.t)::j16 (j16 (j4 (j4 (jk::[])))))),Hm []⟩) (fun g=>YA j r g.f g.s) ⟨f,idF,0,0,R,hr⟩ ?_ ?_
 ·refine(aj (tm:=(j4 (jk::jk::.one (.sl 22 0 0 r)::.one (.sl 26 0 0 r)::j16 (j16 (j4 (j4 (jk::[]))))))) (l:=[(22,ij 22 r r f),(26,ij 26 r r idF)]) ⟨gk 0 22 r r _,gk 0 26 r r _,trivial⟩ (by simp[wk])).trans ((bF 22 (jo rfl)).trans ((aj (tm:=(j4 (jk::jk::dr (mat r r f)::.one (.sl 26 0 0 r)::j16 (j16 (j4 (j4 (jk::[]))))))) (l:=[(26,ij 26 r r idF)]) ⟨rfl,trivial⟩ (by
   simp[wk];exact⟨(RG (H:=Hm [(22,ij 22 r r f),(26,ij 26 r r idF)]) (d:=22) (n:=r) (c:=r) (f:=f) rfl).symm,rfl⟩)).trans ((bF 26 (jo rfl)).trans (aj trivial ?_))))
  simp[wk];exact⟨rfl,(RG (H:=Hm [(26,ij 26 r r idF)]) (d:=26) (n:=r) (c:=r) (f:=idF) rfl).symm⟩
 rintro⟨g,t,s,A,x,K⟩;simp only;have M:=aaH r g u E x.dfn.pos (fun i o v w=>(x.szf y z v w).mono (by omega));cases C:scanF g r with
 |none=>
  obtain⟨rfl,rfl⟩:g=h/\t=T:=by
   cases K with
   |done _ _ _=>simp
   |step _ _ _ _ b I _=>grind
  have P:=v7 u E L;have ct:=Qh r r g u (by omega) u (by omega) (fun i o v w=>by have:=P i v o w;exact⟨by omega,by omega⟩);rw[C]at M;refine am (dU [⟨1,_,_,_,M⟩] @stT.eq_1 (k:=ai (bi (k:=az rfl (dU [⟨1,_,_,_,ct⟩] @ZY.eq_1 (k:=?_))))));refine bA.weak (aj (tm:=(j4 (jk::jk::jk::dr (mat r r t)::jk::jk::jk::.one (.sl 38 0 0 r)::j16 (j16 (j4 (jk::[])))))) (l:=[(38,mA 38 r r g)]) ⟨eh 0 38 _ _ _,trivial⟩ (by simp[wk])) ?_;refine bi (k:=?_);refine aQ ⟨.inr rfl,_,bJ.refl _,?_⟩;refine⟨.tup [(false,[.sl 38 0 0 r]),(false,[.p (.sl (ls (fR fZ) (mat r r t)))]),(false,[.p (.raw (.int .i64 0))])],38,?_,A4 (by simp[selfTV,bH]) (by decide),(eh 38 0 _ _ _).symm,rfl⟩;simp(disch:=omega) only[kd,results24]
 |some b=>
  have D:Rch r (chF g b) (jK r t (Yk g b)) h T:=by
   cases K with
   |done _ _ I=>grind
   |step _ _ _ _ c' I aa=>
    grind
  rw[C]at M;have J:=Oy y x z C;have ha:=x.adds_le y z;have V:=Fm r g (Yk g b) u (by omega) (fun i o v w=>(x.szf y z v w).mono (by omega)) (fun i o v w=>(J i o v w).mono (by omega));rw[ZF g C]at V;have cp:=vE r r r t (Yk g b) u (by omega) u (by omega) u (by omega) (fun i o v w=>(x.szt i o v w).mono (acl (Nat.add_le_add_left (acq (c+4) ha) 1) (by have:=y.sz;omega))) (fun i o v w=>(J i o v w).mono (by omega));refine am (dU [⟨1,_,_,_,M⟩] @stT.eq_1 (k:=ai (bi (k:=ao rfl (ak (abf [⟨2,_,_,_,V⟩,⟨5,_,_,_,cp⟩] (k:=?_)))))));cases b with
  |add i o=>
   refine⟨⟨_,_,s,A+1,(x.add y z C).1,D⟩,x.mu_add y z C,aj trivial ?_⟩;simp[wk];exact⟨rfl,rfl⟩
  |swp q=>
   refine⟨⟨_,_,s+1,A,x.swap y z C,D⟩,x.mu_swap y z C,aj trivial ?_⟩;simp[wk];exact⟨rfl,rfl⟩
theorem No (q:Fh n m j c) (b:Nat) (f h T:FF) (g:1<=b) (l:b<=n) (k:Fu n m c b f) (e:RedR h b) (o:Rch b f idF h T):
  CallC prog 24 [dr (mat b b f)] ⟨[],.tup [(false,[.p (.sl (ls (fR fI) (mat b b h)))]),(false,[.p (.sl (ls (fR fZ) (mat b b T)))]),(false,[.p (.raw (.int .i64 0))])]⟩:=
 (BZ q b f h T g l k e o).fzT (by simp[isPure])
theorem DT {f:FF} (g: ∀a b,a≠b->f a b=0) (l: ∀a,0<f a a): ∀k,(0<dk f k/\ ∀t,t<k->0<dk f (t+1))/\ ∀a b,k<=a->k<=b->bk f k a b=dk f k*f a b
 |0=>⟨⟨by rw[ce];omega,fun t h=>by omega⟩,fun a b _ _=>by grind [cH,ce]⟩
 |k+1=>by
  obtain⟨⟨o,p⟩,j⟩:=DT g l k;have e:dk f (k+1)=dk f k*f k k:=by grind [ca]
  have c:0<dk f (k+1):=by simp_all[afT]
  refine⟨⟨c,fun t h=>?_⟩,fun a b m n=>?_⟩
  ·grind
  have s:=sylv f k (fun t h=>by grind) a b;rw[j a b (by omega) (by omega),j a k (by omega) (by omega),g a k (by omega),agQ,afJ,Int.sub_zero]at s;grind [Int.eq_of_mul_eq_mul_left,Int.mul_left_comm]
theorem LY {f:FF} (e: ∀a b,a≠b->f a b=0) (c: ∀a,0<f a a) (g: ∀a,f a a<=2): ∀k,dk f k<=2^k
 |0=>by rw[ce];decide
 |k+1=>by
  obtain⟨⟨j,_⟩,l⟩:=DT e c k;rw[ca,l k k (by omega) (by omega),Int.pow_succ];have h:=LY e c g k;exact acZ h (g k) (ad2 (c k)) (Int.le_trans (ad2 j) h)
theorem Ri (L:List Int) (p n:Nat) (o:1<=n) (m:n<=8):GoodP n (ja L p 2):=by
 have f: ∀a b,a≠b->ja L p 2 a b=0:=fun a b h=>by grind [ja]
 have g: ∀a,0<ja L p 2 a a:=fun a=>by grind [ja]
 have l: ∀a,ja L p 2 a a<=2:=fun a=>by
  unfold ja;rw[if_pos rfl];have:=oq (n:=2) L (mW L p a) (by omega);omega
 have j: ∀k,0<dk (ja L p 2) (k+1):=fun k=>(DT f g (k+1)).1.1
 have c: ∀k,detF (k+1) (ja L p 2)=dk (ja L p 2) (k+1):=fun k=>jj fun t _=>by grind
 refine⟨fun a _ b _=>?_,fun k _=>by grind,?_⟩
 ·grind
 have e:=c (n-1);rw[show n-1+1=n by omega]at e;rw[e];have q:=LY f g l n;have r:(2:Int)^n<=2^8:=by
  have:=acF (show 0<2 by omega) m;grind
 omega
theorem zQ (b:Nat) (L:List Int) (n:Nat) (c:1<=n) (e:n<=8):GoodP n (pp b L n)/\IE (pp b L n):=by
 grind [pp,MJ,Ri,Jq]
theorem UZ (e b:Nat) (L B:List Int) (c n:Nat) (h T:FF) (v:I8 L) (o:e<=255) (g:b<=255) (p:1<=c) (q:c<=8) (y:n=1+e%c) (z:RedR h n) (w:Rch n (pp b L n) idF h T):
  CallC prog 14 [tL e b L B,.raw (.int .i64 (c:Int))] ⟨mA 0 n n h,.one (.sl 0 0 0 n)⟩:=by
 have f:1<=n:=by omega
 have m:n<=8:=by have:=acM e (show 0<c by omega);omega
 have s:=Y1 e b L B c n v o g p q y;obtain⟨x,r⟩:=zQ b L n f m;have u:=BZ bd8 n (pp b L n) h T f m (YG f m r x) z w;have t:=Nn n n (pp b L n) f (by omega) f (by omega) (fun i j _ _=>r.i64 i j);generalize pp b L n=A at*
 refine ax func14 rfl ntmps14 (jS @tL.eq_1 (k:=dU [⟨2,_,_,_,s⟩,⟨3,_,_,_,t⟩,⟨4,_,_,_,u⟩] @tL.eq_1 (k:=?_)));refine bA.weak (aj (tm:=(j4 (jk::.one (.sl 13 0 0 n)::j4 (j4 (j4 ([])))))) (l:=[(13,mA 13 n n h)]) ⟨eh 0 13 _ _ _,trivial⟩ (by simp[wk])) ?_;refine bi (k:=?_);refine aQ ⟨.inr rfl,_,bJ.refl _,?_⟩;refine⟨.one (.sl 13 0 0 n),13,?_,rfl,(eh 13 0 _ _ _).symm,rfl⟩;simp(disch:=omega) only[kd,results14]
theorem UY (e c:Nat) (L B:List Int) (b n:Nat) (h T:FF) (m:I8 L) (g:e<=255) (f:c<=255) (j:1<=b) (l:b<=8) (p:n=1+e%b) (q:RedR h n) (o:Rch n (pp c L n) idF h T):
  CallC prog 14 [tL e c L B,.raw (.int .i64 (b:Int))] ⟨[],cw (mat n n h)⟩:=
 (UZ e c L B b n h T m g f j l p q o).fzI
theorem Y0 (b:Nat) (L:List Int) {n:Nat} (c:1<=n) (e:n<=8): ∃h T,RedR h n/\Rch n (pp b L n) idF h T:=by
 obtain⟨g,f⟩:=zQ b L n c e;exact(YG c e f g).ex bd8 c e
theorem yx (e c:Nat) (L B:List Int) (b n:Nat) (p:I8 L) (g:e<=255) (f:c<=255) (j:1<=b) (l:b<=8) (q:n=1+e%b):
  ∃h,RedR h n/\CallC prog 14 [tL e c L B,.raw (.int .i64 (b:Int))] ⟨[],cw (mat n n h)⟩:=by
 obtain⟨h,T,m,o⟩:=Y0 c L (n:=n) (by omega) (by have:=acM e (show 0<b by omega);omega);grind [UY]
theorem Mo (l:List Int) (k:Nat) (v:Int):(lc fI l).set k [AV.p (.raw (.int .i64 v))]=lc fI (l.set k v):=by simp_all[lc,fI]
theorem II (c:1<=n) (l:n<=8) (m:RedR b n):MI (mat n n b):=fun r e z o=>by
 obtain⟨i,f,rfl⟩:=acn.1 e;obtain⟨j,g,rfl⟩:=acn.1 o;have:=v7 c l m i (acV.1 f) j (acV.1 g);exact⟨by omega,by omega⟩
section
open Go.ChangeShapes Go.WideShapes Go.ChangeAt Go.RowKit
theorem WS {A:Option Addr} (u:e.length<=n) (v:e.length<=9223372036854775807) (h:RdI .i8 w A e):bS (fun _=>False) w (.sl (ls f8 e)) (.slice A e.length n):=by
 cases e with
 |nil=>exact bS.nil _ _
 |cons p l0=>
  obtain⟨b,o,rfl,t⟩:=h (by simp);have r:=t 0 (.int .i8 p) (by simp);have s:b<w.heap.size:=xT r;have:=bS.sl (X:=fun _=>False) (w:=w) b o 1 n (ls f8 (p::l0)) (fun i _=> .int .i8 ((p::l0).getD i 0)) (fun h=>h) s (fun f g=>by
   obtain⟨z,_,rfl⟩:=acn.1 g;rfl) (by grind [d8]) (by grind [d8]) (fun i f j x g m=>by
   rw[gV]at g;obtain⟨z,q,rfl⟩:=acf.1 g;cases j with
   |succ j=>simp[f8]at m
   |zero=>
    grind) (fun i f j x g m=>by
   rw[gV]at g;obtain⟨z,q,rfl⟩:=acf.1 g;cases j with
   |succ j=>simp[f8]at m
   |zero=>
    simp[f8]at m;subst m;simp only[acm,q,ads];exact bS.raw _ rfl)
  grind [d8]
theorem fo {H:Type} {o:TypeId×Value->H} {j:Bool} {e:TypeId} {y:DataW H×List MemPlace} (r:P.underlying f=some (.slice e)) (A:P.underlying e=some (.int .i8)) (u:P.cellsOf e=1) (h:DataW.trod o P w n (fun _=>true) j m f [g]=some y):
  ∃L:List Int,bS (fun _=>False) w (.sl (ls f8 L)) g/\I8 L:=by
 rcases DataW.trod_slice r h with⟨b,_⟩|⟨x,l,c,_,_,_,_,b,_⟩
 ·simp at b;subst b;exact⟨[],bS.nil _ _,fun z q=>by simp at q⟩
 simp at b;subst b;obtain⟨B,C,D,E,F,s,_⟩:=ST (enc:=o) (base:=n) (held:=j) (d:=y.1) (p:=y.2) r A u ⟨m,by simpa[Value.cells] using h⟩;refine⟨B,?_,fun z q=>UC (s z q)⟩;grind [maxLen,WS]
theorem fp {H:Type} {e:TypeId×Value->H} {c:Bool} {y:DataW H×List MemPlace} (j:P.underlying f=some (.int .u8)) (h:DataW.trod e P w n (fun _=>true) c m f [g]=some y): ∃b:Nat,g= .int .u8 (b:Int)/\b<=255:=by
 obtain⟨b,o,_,l⟩:=DataW.trod_int j h;have:=mb l;refine⟨b.toNat,?_,by omega⟩;grind
theorem Hl {d k:Nat} {B:List Int} {c:Value} (f:bS (fun _=>False) w (.sl (ls f8 e)) g) (h:bS (fun _=>False) w (.sl (ls f8 B)) c):
  (tL d k e B).rel (fun _ _=>none) (fun _=>[]) (fun _=>False) w (.agg #[.int .u8 (d:Int),.int .u8 (k:Int),g,c]):=by
 refine⟨#[.int .u8 (d:Int),.int .u8 (k:Int),g,c],rfl,rfl,fun j x b=>?_⟩
 match j,b with
 |0,b=>simp at b;subst b;exact⟨_,rfl,rfl,bS.raw _ rfl⟩
 |1,b=>simp at b;subst b;exact⟨_,rfl,rfl,bS.raw _ rfl⟩
 |2,b=>simp at b;subst b;exact⟨_,rfl,f.one,f⟩
 |3,b=>simp at b;subst b;exact⟨_,rfl,h.one,h⟩
 |j+4,b=>simp at b
theorem LI: ∀{b:List TV} {vs:List Value},b.length=vs.length->(∀(j:Nat) t v,b[j]?=some t->vs[j]?=some v->t.rel (fun _ _=>none) (fun _=>[]) (fun _=>False) w v)->
  ∀(j:Nat) t,b[j]?=some t-> ∃v:Value,vs.toArray[j]?=some v/\t.rel (fun _ _=>none) (fun _=>[]) (fun _=>False) w v:=fun{b vs} hl h j t hj=>by
 have c:=(aci.1 hj).1;obtain⟨v,e⟩: ∃v,vs[j]?=some v:=⟨_,acy (by omega)⟩;grind
end
end Go.Proofs.YtalmoejhjceflaaGreat
