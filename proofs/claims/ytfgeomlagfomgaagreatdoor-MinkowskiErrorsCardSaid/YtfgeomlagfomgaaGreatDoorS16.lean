/-
  Part 17 of a proof (walks and plain facts).
-/
import Derived.Test.YtfgeomlagfomgaaGreatDoorS15
import Derived.Lib.SmallJoins
set_option linter.all false
set_option maxRecDepth 100000
set_option maxHeartbeats 64000000
open Nat renaming reduceAdd → aa
open Nat renaming reduceEqDiff → ab
open List renaming replicate → ae
open Nat renaming reduceLeDiff → ah
open List renaming mem_map → ak
open List renaming getElem?_eq_none → aq
open Nat renaming le_trans → az
namespace Go.Proofs.YtfgeomlagfomgaaGreatDoor
open Go.RowKit
theorem K6 {P:Program} {b:Nat} {ty:TypeId} {c z:Code} {Q:Exit->AS->List PV->Prop} {s S:AS} {cs cs1:List PV} (h1:eZ P b ty c (rQ (fun s' k=>ca s' S/\k=cs1) Q) s cs) (h2:eZ P b ty z Q S cs1):eZ P b ty c (rQ (eZ P b ty z Q) Q) s cs:=h1.mono fun e s' k h=>by
 cases e with
 |normal=>
  obtain⟨g1,rfl⟩:=h;exact eZ.weak g1 h2
 |_=>exact h
def kN (kind:Nat) (L:List Int) (n:Nat):(Nat->Nat->Int)×Nat:=
 if kind%8<4 then pa L (gC L 0 6,ko L 0 n) n
 else if kind%8=4 then(upd (i9 false n n) 0 0 (i9 false n n 0 0+(mg L 0 3:Int)),gE L 0)
 else if kind%8=5 then(upd (i9 true n n) (n-1) (n-1) (i9 true n n (n-1) (n-1)+(mg L 0 2:Int)),gE L 0)
 else if kind%8=6 then(gC L 0 9,ko L 0 n)
 else(gC L 0 1,ko L 0 n)
open Classical in
noncomputable def ma (kind:Nat) (L:List Int) (n:Nat):Nat->Nat->Int:=if GoodP n (kN kind L n).1 then(kN kind L n).1 else gC L (kN kind L n).2 2
theorem rh (f:FF) (i j:Nat) (v:Int) (a b:Nat):upd f i j v a b=v\/upd f i j v a b=f a b:=by
 by_cases h:a=i/\b=j
 ·obtain⟨rfl,rfl⟩:=h;exact .inl (yE f a b v)
 exact .inr (o8 (by omega))
def Ba (f:FF):Prop:= ∀a b,-9<=f a b/\f a b<=9
theorem Ba.i64 {f:FF} (h:Ba f) (a b:Nat):GG (f a b):=by have:=h a b;exact⟨by omega,by omega⟩
theorem Ba.upd {f:FF} (h:Ba f) {i j:Nat} {v:Int} (h1: -9<=v) (h2:v<=9):Ba (Go.Proofs.YtfgeomlagfomgaaGreatDoor.upd f i j v):=fun a b=>by
 rcases rh f i j v a b with e|e
 ·rw[e];exact⟨h1,h2⟩
 rw[e];exact h a b
theorem xC {L:List Int} {a most:Nat} (h1:0<most) (h2:most<=9):Ba (gC L a most):=fun i j=>by
 unfold gC;split
 ·have:=li (n:=most) L (ko L a i) h1;omega
 omega
theorem P8 (x:Int): -2<=Int.tmod x 3/\Int.tmod x 3<=2:=by
 have h1:=Int.tmod_lt_of_pos x (show(0:Int)<3 by omega);have h2:=Int.lt_tmod_of_pos x (show(0:Int)<3 by omega);omega
theorem Iy {L:List Int} {i:Nat} {s:(Nat->Nat->Int)×Nat} (h:Ba s.1): ∀k,Ba (KR L i s k).1
 |0=>h
 |k+1=>by
  have:=P8 (L.getD (KR L i s k).2 0);exact((Iy h k).upd (by omega) (by omega)).upd (by omega) (by omega)
theorem Ix {L:List Int} {s:(Nat->Nat->Int)×Nat} (h:Ba s.1): ∀i,Ba (pa L s i).1
 |0=>h
 |i+1=>Iy (Ix h i) i
theorem oI (fork:Bool) (n:Nat): ∀i a b,-1<=i9 fork n i a b/\i9 fork n i a b<=2
 |0,_,_=>by simp[i9]
 |i+1,a,b=>by
  have ih:=oI fork n i;have u: ∀(f:FF) (i j:Nat) (v:Int),(∀a b,-1<=f a b/\f a b<=2)-> -1<=v/\v<=2-> ∀a b,-1<=upd f i j v a b/\upd f i j v a b<=2:=fun f i j v hf hv a b=>by
   rcases rh f i j v a b with e|e
   ·rw[e];exact hv
   rw[e];exact hf a b
  unfold i9;split
  ·exact u _ _ _ _ ih (by omega) a b
  exact u _ _ _ _ (u _ _ _ _ (u _ _ _ _ ih (by omega)) (by omega)) (by omega) a b
theorem Ei (kind:Nat) (L:List Int) (n:Nat):Ba (kN kind L n).1:=by
 have b3:=li (n:=3) L 0 (by omega);have b2:=li (n:=2) L 0 (by omega);have c1:=oI false n n 0 0;have c2:=oI true n n (n-1) (n-1);unfold kN;split
 ·exact Ix (xC (by omega) (by omega)) n
 split
 ·exact Ba.upd (fun a b=>by have:=oI false n n a b;omega) (by omega) (by omega)
 split
 ·exact Ba.upd (fun a b=>by have:=oI true n n a b;omega) (by omega) (by omega)
 split
 ·exact xC (by omega) (by omega)
 exact xC (by omega) (by omega)
theorem Mj (kind:Nat) (L:List Int) (n:Nat):(kN kind L n).2<=L.length:=by
 unfold kN;split
 ·exact B7 (qy (by omega) n) n
 split
 ·exact nJ (by omega)
 split
 ·exact nJ (by omega)
 split
 ·exact qy (by omega) n
 exact qy (by omega) n
abbrev tL (dim kind:Nat) (L B:List Int):TV:= .agg [.p (.raw (.int .u8 (dim:Int))),.p (.raw (.int .u8 (kind:Int))),.p (.sl (ls f8 L)),.p (.sl (ls f8 B))]
theorem NQ (dim kind:Nat) (L B:List Int) (most n:Nat) (hL:I8 L) (hdim:dim<=255) (hkind:kind<=255) (hm1:1<=most) (hm8:most<=8) (hn:n=1+dim%most):
  CallC Tryz.prog 40 [tL dim kind L B,.raw (.int .i64 (most:Int))] ⟨[],bi (bu n n (ma kind L n))⟩:=by
 have hn1:1<=n:=by omega
 have hn8:n<=8:=by have:=Nat.mod_lt dim (show 0<most by omega);omega
 have e1:Int.tmod (dim:Int) (most:Int)=((dim%most:Nat):Int):=(Int.ofNat_tmod dim most).symm;have e2:Int.tmod (kind:Int) 8=((kind%8:Nat):Int):=(Int.ofNat_tmod kind 8).symm;have e3:1+((dim%most:Nat):Int)=(n:Int):=by omega
 refine aJ Tryz.func40 rfl (by kernel_rfl) ?_;rw[Tryz.ntmps40];refine aD fun _ K=>?_;simp(disch:=omega) only[kd,tL,aa,ae];apply K
 refine aD fun _ K=>?_;simp(disch:=omega) only[kd,aa,ah,ab];apply K
 refine G4 11 (cs:=Gp L 0) rfl fun b=>?_
 refine eZ.weak (aF (tm:=(jk::rN most::.one (.ptr 2 0 0 0)::jk::jk::dF b::j16 (j16 (j16 (j16 (j4 ([]))))))) (l:=[(2,[⟨32,4,[[.p (.raw (.int .u8 (dim:Int))),.p (.raw (.int .u8 (kind:Int))),.p (.sl (ls f8 L)),.p (.sl (ls f8 B))]]⟩])]) ⟨rfl,trivial⟩ (by simp[wk,tY,kA])) ?_;refine be fun _ K=>?_;simp(disch:=omega) only[kd,aa,dF,aP,e1,e3];apply K
 refine be fun _ K=>?_;simp only[kd];apply K
 refine da (be fun _ K=>?_);simp(disch:=omega) only[kd,aa,e2];apply K;have hraw:=Ei kind L n;have hple:=Mj kind L n;refine K6 (S:=⟨(j4 (jk::dF b::rN n::bi (bu n n (kN kind L n).1)::j16 (j16 (j16 (j16 (jk::jk::[])))))),Hm []⟩) (cs1:=Gp L (kN kind L n).2) ?_ ?_
 ·have hk8:=Nat.mod_lt kind (show 0<8 by omega);have hG:kind%8<4->kN kind L n=pa L (gC L 0 6,ko L 0 n) n:=fun h=>by unfold kN;rw[if_pos h]
  have cg:=Fp b L 0 n hL (by omega) hn8;have cha:=Dq n false hn8;have chb:=Dq n true hn8;have cb3:=xb b L 0 3 hL (by omega) (by omega) (by omega);have cb2:=xb b L 0 2 hL (by omega) (by omega) (by omega);have cd9:=lB b L 0 n 9 hL (by omega) hn8 (by omega) (by omega);have cd1:=lB b L 0 n 1 hL (by omega) hn8 (by omega) (by omega);rw[show((3:Nat):Int)=3 from rfl]at cb3;rw[show((2:Nat):Int)=2 from rfl]at cb2;rw[show((9:Nat):Int)=9 from rfl]at cd9;rw[show((1:Nat):Int)=1 from rfl]at cd1;have q3:=li (n:=3) L 0 (by omega);have q2:=li (n:=2) L 0 (by omega);have r1:=oI false n n 0 0;have r2:=oI true n n (n-1) (n-1);have x0:((n:Int)-1).toNat=n-1:=by omega
  have x1:=bO (n:=n) (i:=0) 35 n (by omega);have x2:=cL (n:=n) n (i9 false n n) (i:=0) (by omega);have x3:=aU (m:=n) (i9 false n n 0) (j:=0) (by omega);have y1:=bO (n:=n) (i:=n-1) 48 n (by omega);have y2:=cL (n:=n) n (i9 true n n) (i:=n-1) (by omega);have y3:=aU (m:=n) (i9 true n n (n-1)) (j:=n-1) (by omega);have hcase:kind%8=0\/kind%8=1\/kind%8=2\/kind%8=3\/kind%8=4\/kind%8=5\/kind%8=6\/kind%8=7:=by omega
  rcases hcase with hkk|hkk|hkk|hkk|hkk|hkk|hkk|hkk
  ·have hk:kind%8=0:=by omega
   rw[hk,show((0:Nat):Int)=0 from rfl];refine dO ?_;refine da (be fun _ K=>?_);simp(disch:=omega) only[kd];apply K;refine ib rfl (kq ?_);show eZ _ _ _ _ _ _ _;refine ib rfl ?_;refine ic 2 cg [] [] (by kernel_rfl) (by rfl) (by rfl) fun _ K=>?_;simp only[kd,dF,aa,ab];apply K
   rw[hG (by omega)];refine⟨(aF (tm:=(j4 (jk::dF b::rN n::.one (.sl 31 0 0 n)::j16 (j16 (j16 (j16 (jk::jk::[]))))))) (l:=[(31,de 31 n n ((pa L (gC L 0 6,ko L 0 n) n).1))]) ⟨cx 0 31 n n _,trivial⟩ (by simp[wk])).trans ((bW 31 (dj rfl)).trans (aF (tm:=(j4 (jk::dF b::rN n::bi (bu n n ((pa L (gC L 0 6,ko L 0 n) n).1))::j16 (j16 (j16 (j16 (jk::jk::[]))))))) (l:=[]) trivial (by
    simp[wk];exact⟨rfl,rfl,(ky (H:=Hm [(31,de 31 n n ((pa L (gC L 0 6,ko L 0 n) n).1))]) (d:=31) (n:=n) (c:=n) (f:=(pa L (gC L 0 6,ko L 0 n) n).1) rfl).symm⟩))),rfl⟩
  ·have hk:kind%8=1:=by omega
   rw[hk,show((1:Nat):Int)=1 from rfl];refine dO ?_;refine da (be fun _ K=>?_);simp(disch:=omega) only[kd];apply K;refine df rfl ?_;refine be fun _ K=>?_;simp(disch:=omega) only[kd];apply K
   refine ib rfl (kq ?_);show eZ _ _ _ _ _ _ _;refine ib rfl ?_;refine ic 2 cg [] [] (by kernel_rfl) (by rfl) (by rfl) fun _ K=>?_;simp only[kd,dF,aa,ab];apply K
   rw[hG (by omega)];refine⟨(aF (tm:=(j4 (jk::dF b::rN n::.one (.sl 31 0 0 n)::j16 (j16 (j16 (j16 (jk::jk::[]))))))) (l:=[(31,de 31 n n ((pa L (gC L 0 6,ko L 0 n) n).1))]) ⟨cx 0 31 n n _,trivial⟩ (by simp[wk])).trans ((bW 31 (dj rfl)).trans (aF (tm:=(j4 (jk::dF b::rN n::bi (bu n n ((pa L (gC L 0 6,ko L 0 n) n).1))::j16 (j16 (j16 (j16 (jk::jk::[]))))))) (l:=[]) trivial (by
    simp[wk];exact⟨rfl,rfl,(ky (H:=Hm [(31,de 31 n n ((pa L (gC L 0 6,ko L 0 n) n).1))]) (d:=31) (n:=n) (c:=n) (f:=(pa L (gC L 0 6,ko L 0 n) n).1) rfl).symm⟩))),rfl⟩
  ·have hk:kind%8=2:=by omega
   rw[hk,show((2:Nat):Int)=2 from rfl];refine dO ?_;refine da (be fun _ K=>?_);simp(disch:=omega) only[kd];apply K;refine df rfl ?_;refine be fun _ K=>?_;simp(disch:=omega) only[kd];apply K
   refine df rfl ?_;refine be fun _ K=>?_;simp(disch:=omega) only[kd];apply K
   refine ib rfl (kq ?_);show eZ _ _ _ _ _ _ _;refine ib rfl ?_;refine ic 2 cg [] [] (by kernel_rfl) (by rfl) (by rfl) fun _ K=>?_;simp only[kd,dF,aa,ab];apply K
   rw[hG (by omega)];refine⟨(aF (tm:=(j4 (jk::dF b::rN n::.one (.sl 31 0 0 n)::j16 (j16 (j16 (j16 (jk::jk::[]))))))) (l:=[(31,de 31 n n ((pa L (gC L 0 6,ko L 0 n) n).1))]) ⟨cx 0 31 n n _,trivial⟩ (by simp[wk])).trans ((bW 31 (dj rfl)).trans (aF (tm:=(j4 (jk::dF b::rN n::bi (bu n n ((pa L (gC L 0 6,ko L 0 n) n).1))::j16 (j16 (j16 (j16 (jk::jk::[]))))))) (l:=[]) trivial (by
    simp[wk];exact⟨rfl,rfl,(ky (H:=Hm [(31,de 31 n n ((pa L (gC L 0 6,ko L 0 n) n).1))]) (d:=31) (n:=n) (c:=n) (f:=(pa L (gC L 0 6,ko L 0 n) n).1) rfl).symm⟩))),rfl⟩
  ·have hk:kind%8=3:=by omega
   rw[hk,show((3:Nat):Int)=3 from rfl];refine dO ?_;refine da (be fun _ K=>?_);simp(disch:=omega) only[kd];apply K;refine df rfl ?_;refine be fun _ K=>?_;simp(disch:=omega) only[kd];apply K
   refine df rfl ?_;refine be fun _ K=>?_;simp(disch:=omega) only[kd];apply K
   refine df rfl ?_;refine fo fun _ K=>?_;simp(disch:=omega) only[kd];apply K
   show eZ _ _ _ _ _ _ _;refine ib rfl ?_;refine ic 2 cg [] [] (by kernel_rfl) (by rfl) (by rfl) fun _ K=>?_;simp only[kd,dF,aa,ab];apply K
   rw[hG (by omega)];refine⟨(aF (tm:=(j4 (jk::dF b::rN n::.one (.sl 31 0 0 n)::j16 (j16 (j16 (j16 (jk::jk::[]))))))) (l:=[(31,de 31 n n ((pa L (gC L 0 6,ko L 0 n) n).1))]) ⟨cx 0 31 n n _,trivial⟩ (by simp[wk])).trans ((bW 31 (dj rfl)).trans (aF (tm:=(j4 (jk::dF b::rN n::bi (bu n n ((pa L (gC L 0 6,ko L 0 n) n).1))::j16 (j16 (j16 (j16 (jk::jk::[]))))))) (l:=[]) trivial (by
    simp[wk];exact⟨rfl,rfl,(ky (H:=Hm [(31,de 31 n n ((pa L (gC L 0 6,ko L 0 n) n).1))]) (d:=31) (n:=n) (c:=n) (f:=(pa L (gC L 0 6,ko L 0 n) n).1) rfl).symm⟩))),rfl⟩
  ·have hk:kind%8=4:=by omega
   rw[hk,show((4:Nat):Int)=4 from rfl];refine dO ?_;refine da (be fun _ K=>?_);simp(disch:=omega) only[kd];apply K;refine df rfl ?_;refine be fun _ K=>?_;simp(disch:=omega) only[kd];apply K
   refine df rfl ?_;refine be fun _ K=>?_;simp(disch:=omega) only[kd];apply K
   refine df rfl ?_;refine fo fun _ K=>?_;simp(disch:=omega) only[kd];apply K
   show eZ _ _ _ _ _ _ _;refine df rfl ?_;refine be fun _ K=>?_;simp(disch:=omega) only[kd];apply K
   refine ib rfl ?_;refine ms [⟨1,_,_,_,cha⟩] [] fun _ K=>?_;simp only[kd,aa,ab];apply K
   refine eZ.weak (aF (tm:=(j4 (jk::dF b::rN n::.one (.sl 35 0 0 n)::j16 (j16 (j16 (j16 (jk::jk::[]))))))) (l:=[(35,de 35 n n (i9 false n n))]) ⟨cx 0 35 n n _,trivial⟩ (by simp[wk])) ?_;refine lf aZ 6 cb3 [] [] (by kernel_rfl) (by kernel_rfl) (by rfl) (by rfl) fun _ K=>?_;simp(disch:=omega) only[kd,dF,aa,Int.reduceToNat,x1,x2,x3,aP,fj];apply K
   rw[show kN kind L n=(upd (i9 false n n) 0 0 (i9 false n n 0 0+(mg L 0 3:Int)),gE L 0) by unfold kN;rw[if_neg (by omega),if_pos hk]];refine⟨(aF (tm:=(j4 (jk::dF b::rN n::.one (.sl 35 0 0 n)::j16 (j16 (j16 (j16 (jk::jk::[]))))))) (l:=[(35,de 35 n n (upd (i9 false n n) 0 0 (i9 false n n 0 0+(mg L 0 3:Int))))]) ⟨rfl,trivial⟩ (by simp[wk])).trans ((bW 35 (dj rfl)).trans (aF (tm:=(j4 (jk::dF b::rN n::bi (bu n n (upd (i9 false n n) 0 0 (i9 false n n 0 0+(mg L 0 3:Int))))::j16 (j16 (j16 (j16 (jk::jk::[]))))))) (l:=[]) trivial (by
    simp[wk];exact⟨rfl,rfl,(ky (H:=Hm [(35,de 35 n n (upd (i9 false n n) 0 0 (i9 false n n 0 0+(mg L 0 3:Int))))]) (d:=35) (n:=n) (c:=n) (f:=upd (i9 false n n) 0 0 (i9 false n n 0 0+(mg L 0 3:Int))) rfl).symm⟩))),rfl⟩
  ·have hk:kind%8=5:=by omega
   rw[hk,show((5:Nat):Int)=5 from rfl];refine dO ?_;refine da (be fun _ K=>?_);simp(disch:=omega) only[kd];apply K;refine df rfl ?_;refine be fun _ K=>?_;simp(disch:=omega) only[kd];apply K
   refine df rfl ?_;refine be fun _ K=>?_;simp(disch:=omega) only[kd];apply K
   refine df rfl ?_;refine fo fun _ K=>?_;simp(disch:=omega) only[kd];apply K
   show eZ _ _ _ _ _ _ _;refine df rfl ?_;refine be fun _ K=>?_;simp(disch:=omega) only[kd];apply K
   refine df rfl ?_;refine be fun _ K=>?_;simp(disch:=omega) only[kd];apply K
   refine ib rfl ?_;refine ms [⟨1,_,_,_,chb⟩] [] fun _ K=>?_;simp only[kd,aa,ab];apply K
   refine eZ.weak (aF (tm:=(j4 (jk::dF b::rN n::.one (.sl 48 0 0 n)::j16 (j16 (j16 (j16 (jk::jk::[]))))))) (l:=[(48,de 48 n n (i9 true n n))]) ⟨cx 0 48 n n _,trivial⟩ (by simp[wk])) ?_;refine lf aZ 10 cb2 [] [] (by kernel_rfl) (by kernel_rfl) (by rfl) (by rfl) fun _ K=>?_;simp(disch:=omega) only[kd,dF,aa,aP,x0,y1,y2,y3,fj];apply K
   rw[show kN kind L n=(upd (i9 true n n) (n-1) (n-1) (i9 true n n (n-1) (n-1)+(mg L 0 2:Int)),gE L 0) by unfold kN;rw[if_neg (by omega),if_neg (by omega),if_pos hk]];refine⟨(aF (tm:=(j4 (jk::dF b::rN n::.one (.sl 48 0 0 n)::j16 (j16 (j16 (j16 (jk::jk::[]))))))) (l:=[(48,de 48 n n (upd (i9 true n n) (n-1) (n-1) (i9 true n n (n-1) (n-1)+(mg L 0 2:Int))))]) ⟨rfl,trivial⟩ (by simp[wk])).trans ((bW 48 (dj rfl)).trans (aF (tm:=(j4 (jk::dF b::rN n::bi (bu n n (upd (i9 true n n) (n-1) (n-1) (i9 true n n (n-1) (n-1)+(mg L 0 2:Int))))::j16 (j16 (j16 (j16 (jk::jk::[]))))))) (l:=[]) trivial (by
    simp[wk];exact⟨rfl,rfl,(ky (H:=Hm [(48,de 48 n n (upd (i9 true n n) (n-1) (n-1) (i9 true n n (n-1) (n-1)+(mg L 0 2:Int))))]) (d:=48) (n:=n) (c:=n) (f:=upd (i9 true n n) (n-1) (n-1) (i9 true n n (n-1) (n-1)+(mg L 0 2:Int))) rfl).symm⟩))),rfl⟩
  ·have hk:kind%8=6:=by omega
   rw[hk,show((6:Nat):Int)=6 from rfl];refine dO ?_;refine da (be fun _ K=>?_);simp(disch:=omega) only[kd];apply K;refine df rfl ?_;refine be fun _ K=>?_;simp(disch:=omega) only[kd];apply K
   refine df rfl ?_;refine be fun _ K=>?_;simp(disch:=omega) only[kd];apply K
   refine df rfl ?_;refine fo fun _ K=>?_;simp(disch:=omega) only[kd];apply K
   show eZ _ _ _ _ _ _ _;refine df rfl ?_;refine be fun _ K=>?_;simp(disch:=omega) only[kd];apply K
   refine df rfl ?_;refine be fun _ K=>?_;simp(disch:=omega) only[kd];apply K
   refine df rfl ?_;refine be fun _ K=>?_;simp(disch:=omega) only[kd];apply K
   refine ib rfl ?_;refine ic 2 cd9 [] [] (by kernel_rfl) (by rfl) (by rfl) fun _ K=>?_;simp only[kd,dF,aa,ab];apply K
   rw[show kN kind L n=(gC L 0 9,ko L 0 n) by unfold kN;rw[if_neg (by omega),if_neg (by omega),if_neg (by omega),if_pos hk]];refine⟨(aF (tm:=(j4 (jk::dF b::rN n::.one (.sl 66 0 0 n)::j16 (j16 (j16 (j16 (jk::jk::[]))))))) (l:=[(66,de 66 n n (gC L 0 9))]) ⟨cx 0 66 n n _,trivial⟩ (by simp[wk])).trans ((bW 66 (dj rfl)).trans (aF (tm:=(j4 (jk::dF b::rN n::bi (bu n n (gC L 0 9))::j16 (j16 (j16 (j16 (jk::jk::[]))))))) (l:=[]) trivial (by
    simp[wk];exact⟨rfl,rfl,(ky (H:=Hm [(66,de 66 n n (gC L 0 9))]) (d:=66) (n:=n) (c:=n) (f:=gC L 0 9) rfl).symm⟩))),rfl⟩
  have hk:kind%8=7:=by omega
  rw[hk,show((7:Nat):Int)=7 from rfl];refine dO ?_;refine da (be fun _ K=>?_);simp(disch:=omega) only[kd];apply K;refine df rfl ?_;refine be fun _ K=>?_;simp(disch:=omega) only[kd];apply K
  refine df rfl ?_;refine be fun _ K=>?_;simp(disch:=omega) only[kd];apply K
  refine df rfl ?_;refine fo fun _ K=>?_;simp(disch:=omega) only[kd];apply K
  show eZ _ _ _ _ _ _ _;refine df rfl ?_;refine be fun _ K=>?_;simp(disch:=omega) only[kd];apply K
  refine df rfl ?_;refine be fun _ K=>?_;simp(disch:=omega) only[kd];apply K
  refine df rfl ?_;refine be fun _ K=>?_;simp(disch:=omega) only[kd];apply K
  refine df rfl ?_;refine ic 2 cd1 [] [] (by kernel_rfl) (by rfl) (by rfl) fun _ K=>?_;simp only[kd,dF,aa,ab];apply K
  rw[show kN kind L n=(gC L 0 1,ko L 0 n) by unfold kN;rw[if_neg (by omega),if_neg (by omega),if_neg (by omega),if_neg (by omega)]];refine⟨(aF (tm:=(j4 (jk::dF b::rN n::.one (.sl 23 0 0 n)::j16 (j16 (j16 (j16 (jk::jk::[]))))))) (l:=[(23,de 23 n n (gC L 0 1))]) ⟨cx 0 23 n n _,trivial⟩ (by simp[wk])).trans ((bW 23 (dj rfl)).trans (aF (tm:=(j4 (jk::dF b::rN n::bi (bu n n (gC L 0 1))::j16 (j16 (j16 (j16 (jk::jk::[]))))))) (l:=[]) trivial (by
   simp[wk];exact⟨rfl,rfl,(ky (H:=Hm [(23,de 23 n n (gC L 0 1))]) (d:=23) (n:=n) (c:=n) (f:=gC L 0 1) rfl).symm⟩))),rfl⟩
 generalize hrw:kN kind L n=rg at*
 obtain⟨f,p⟩:=rg;simp only at hraw hple⊢;have e5:ma kind L n=(open Classical in if GoodP n f then f else gC L p 2):=by unfold ma;rw[hrw]
 by_cases hg:GoodP n f
 ·rw[if_pos hg]at e5;rw[e5];have c1:=It n f hn1 hn8 hraw.i64 true (by simp[hg]);refine da (ms [⟨1,_,_,_,c1⟩] [] fun _ K=>?_);simp only[kd,bi,aa,dF];apply K;refine df rfl (kq ?_);show eZ _ _ _ _ _ _ _;refine be fun _ K=>?_;simp only[kd];apply K
  refine np ⟨.inr rfl,aH rfl ?_ rfl⟩;simp(disch:=omega) only[kd,Tryz.results40,bi]
 rw[if_neg hg]at e5;rw[e5];have c1:=It n f hn1 hn8 hraw.i64 false (by simp[hg]);have c2:=lB b L p n 2 hL hple hn8 (by omega) (by omega);rw[show((2:Nat):Int)=2 from rfl]at c2;refine da (ms [⟨1,_,_,_,c1⟩] [] fun _ K=>?_);simp only[kd,bi,aa,dF];apply K;refine ib rfl ?_;refine qx 2 c2 [] [] (by kernel_rfl) (by rfl) (by rfl) fun _ K=>?_;simp only[kd,dF,aa];apply K
 refine eZ.weak (aF (tm:=(j4 (.one (.sl 72 0 0 n)::j16 (j16 (j16 (j16 (j4 (jk::[])))))))) (l:=[(72,de 72 n n (gC L p 2))]) ⟨cx 0 72 n n _,trivial⟩ (by simp[wk])) ?_;refine eZ.weak ((bW 72 (dj rfl)).trans (aF (tm:=(j4 (bi (bu n n (gC L p 2))::j16 (j16 (j16 (j16 (j4 (jk::[])))))))) (l:=[]) trivial (by
  simp[wk];exact(ky (H:=Hm [(72,de 72 n n (gC L p 2))]) (d:=72) (n:=n) (c:=n) (f:=gC L p 2) rfl).symm))) ?_
 refine np ⟨.inr rfl,aH rfl ?_ rfl⟩;simp(disch:=omega) only[kd,Tryz.results40,bi]
theorem G0 (n c:Nat) (f:FF) (hn1:1<=n) (hn:n<=16) (hc1:1<=c) (hc:c<=16) (hf: ∀i j:Nat,i<n->j<c->GG (f i j)):
  CallC Tryz.prog 44 [bE (bu n c f)] ⟨de 0 n c f,lE n true⟩:=by
 have hS:=nd (bu n c f);rw[fP (iu f hn1 hn hc1 hc),aV,eI f hn1]at hS;refine aJ Tryz.func44 rfl (by kernel_rfl) ?_;rw[Tryz.ntmps44];refine aD fun _ K=>?_;simp only[kd,bE,ae];apply K
 refine aG [⟨1,_,_,_,hS⟩] [] fun _ K=>?_;simp only[kd,bE,aa];apply K
 refine aE (aD fun _ K=>?_);simp only[kd];apply K;refine aO rfl (aL ?_);show bs _ _ _ _;refine aD fun _ K=>?_;simp(disch:=omega) only[kd,aa];apply K
 refine aE (aD fun _ K=>?_);simp only[kd,aa];apply K;refine aT (G:=jD n) (fun g=>⟨(bE (bu n c f)::j4 (.raw (.int .i64 (c:Int))::jk::.one (.sl 21 0 0 n)::j4 (j4 (j4 (jk::jk::jk::rN n::rN g.i::j16 (j16 (j4 (jk::jk::[])))))))),Hm [(21,kI 21 n c g.i (part f g.i 0))]⟩) (fun g=>n-g.i) ⟨0,by omega⟩ ?_ ?_
 ·refine aF ⟨?_,trivial⟩ ?_
  ·show[_]=_;simp[gm,bu]
  simp[wk]
 rintro⟨i,hi⟩;simp only;by_cases hm:i<n
 ·have hr:=bD c f hm;have k1:=qL (i:=i) (n:=n) 21 c hm;have k2:=jt (i:=i) (n:=n) 21 c hi;have k3:=aV i c (part f i 0);have k4:=nB (i:=i) (n:=n) (c:=c) 21 (part f i 0) hm (fun j hj=>by unfold part;rw[if_neg (by omega)]);have k5:=qK (i:=i+1) (k:=i) (n:=n) 21 c (by omega);have k6:=jt (i:=i+1) (n:=n) 21 c (by omega);have k7:=cL (n:=i+1) c (part f i 0) (i:=i) (by omega);refine aD fun _ K=>?_;simp(disch:=omega) only[kd,bE];apply K
  refine bC rfl ?_;refine aE (aK ?_);refine aD fun _ K=>?_;simp only[kd];apply K
  refine aD fun _ K=>?_;simp(disch:=omega) only[kd,aa,ab,k1,ah,List.length_replicate,List.all_replicate,k3,Nat.reduceBEq];apply K
  refine bs.weak (aF (tm:=(bE (bu n c f)::j4 (.raw (.int .i64 (c:Int))::jk::.one (.sl 21 0 0 n)::rN i::j4 (j4 (j4 (jk::jk::rN n::rN i::j16 (j16 (j4 (jk::jk::[]))))))))) (l:=[(21,kI 21 n c (i+1) (part f i 0))]) ⟨?_,trivial⟩ (by simp[wk])) ?_
  ·first|exact k4|rfl
  refine aD fun _ K=>?_;simp(disch:=omega) only[kd,aa,bE,k5];apply K
  refine aT (G:=jD c) (fun g=>⟨(bE (bu n c f)::j4 (.raw (.int .i64 (c:Int))::jk::.one (.sl 21 0 0 n)::rN i::j4 (j4 (j4 (jk::jk::rN n::rN i::j4 (j4 (jk::jk::jk::rN c::rN g.i::j16 (j4 (j4 (jk::[])))))))))),Hm [(21,kI 21 n c (i+1) (part f i g.i))]⟩) (fun g=>c-g.i) ⟨0,by omega⟩ ?_ ?_
  ·refine aF ⟨rfl,trivial⟩ ?_;simp[wk]
  rintro⟨j,hj⟩;simp only;by_cases hm3:j<c
  ·have hjr:=aU (f i) hm3;have hz:=hf i j hm hm3;have cI:=KZ (f i j) (hz.sz (by omega));rw[iN,if_pos (show -9223372036854775808<=f i j/\f i j<=9223372036854775807 from hz)]at cI;have q7:=cL (n:=i+1) c (part f i j) (i:=i) (by omega);have q8:=aU (part f i j i) hm3;refine aD fun _ K=>?_;simp(disch:=omega) only[kd,bE];apply K
   refine bC rfl ?_;refine aE (aK ?_);refine aD fun _ K=>?_;simp only[kd];apply K
   refine aG [⟨7,_,_,_,cI⟩] [] fun _ K=>?_;simp(disch:=omega) only[kd,tZ,aa,hr,fR,hjr,fZ];apply K
   refine aE (aD fun _ K=>?_);simp only[kd];apply K;refine aO rfl (aL ?_);show bs _ _ _ _;refine aM fun _ K=>?_;simp(disch:=omega) only[kd,aa,k5,q7,q8,fj];apply K
   show bs _ _ _ _;refine aM fun _ K=>?_;simp(disch:=omega) only[kd,aP];apply K
   refine⟨⟨j+1,by omega⟩,by simp only;omega,aF ⟨?_,trivial⟩ ?_⟩
   ·show _::_=_::_;rw[cw fun a b _ _=>je f i j a b]
   simp[wk]
  have hjc:j=c:=by omega
  subst hjc;refine aD fun _ K=>?_;simp(disch:=omega) only[kd,bE];apply K
  refine bJ rfl ?_;show bs _ _ _ _;refine aM fun _ K=>?_;simp(disch:=omega) only[kd,aP];apply K
  refine⟨⟨i+1,by omega⟩,by simp only;omega,aF ⟨?_,trivial⟩ ?_⟩
  ·show _::_=_::_;rw[cw fun a b _ hb=>kH f i a b hb]
  simp[wk]
 have hin:i=n:=by omega
 subst hin;refine aD fun _ K=>?_;simp(disch:=omega) only[kd,bE];apply K
 refine bJ rfl ?_;show bs _ _ _ _;have e:kI 21 i c i (part f i 0)=de 21 i c f:=by
  rw[mG];show _::_=_::_;rw[cw fun a b ha _=>jw f a b ha]
 rw[e];refine aD fun _ K=>?_;simp only[kd,aa];apply K
 refine aI ⟨.inr rfl,CB (d:=21) rfl ?_ (by decide)⟩;simp(disch:=omega) only[kd,Tryz.results44]
structure Qq (N B Z n:Nat) (f0 h T:FF) where
 f:Nat->Nat->Int
 t:Nat->Nat->Int
 s:Nat
 adds:Nat
 inv:RedI N B Z n f0 f t s adds
 rch:Rch n f t h T
theorem B4 (a b:Nat):Sz (idF a b) 1:=by unfold idF;split<;>exact m8 (by decide) (by omega)
theorem Ml {N B S Z n:Nat} {f0 f t h T:FF} (kb:A4 N B S Z) (hn1:1<=n) (hn:n<=N) (hd:dk f0 n<=10000) (hr:Rch n f t h T): ∀s adds,RedI N B Z n f0 f t s adds->RedR h n:=by
 induction hr with
 |done f t hc=>exact fun s adds hI=>hI.red hn1 hd hc
 |step f t h T c hc _ ih=>
  intro s adds hI;cases c with
  |add i j=>exact ih _ _ (hI.add kb hn hc).1
  |swp m=>exact ih _ _ (hI.swap kb hn hc)
theorem FI {N B S Z n:Nat} {f0 f t:FF} {s adds:Nat} (kb:A4 N B S Z) (h:RedI N B Z n f0 f t s adds) (hn:n<=N) {c:Ch} (hc:scanF f n=some c): ∀a b,a<n->b<n->Sz (Ns f c a b) 500:=fun a b ha hb=>by
 obtain⟨hF,hi⟩:=ip hc;cases c with
 |add i j=>
  have hi:i<n:=hi;show Sz (Hf i j (cF f i j) a b) 500;rcases rh idF j i (cF f i j) a b with e|e
  ·unfold Hf;rw[e];exact(h.szc kb hn hi hF.1).mono (by have:=kb.z4;omega)
  unfold Hf;rw[e];exact(B4 a b).mono (by omega)
 |swp m=>exact(B4 _ b).mono (by omega)
theorem Oe {n:Nat} (f:FF) {c:Ch} (hc:scanF f n=some c):bu n n (cngF n f (Ns f c))=bu n n (QE f c):=by
 obtain⟨hF,hi⟩:=ip hc;refine fp fun a b ha hb=>?_
 cases c with
 |add i j=>exact Lk (by have:=hF.1;omega) (by have:i<n:=hi;have:=hF.1;omega) f a b ha hb
 |swp m=>exact Of hi f a b ha hb
structure EK (N B Z n:Nat) (f:FF):Prop where
 good:GoodP n f
 sz: ∀i j,i<n->j<n->Sz (f i j) 400
 st:RedI N B Z n f f idF 0 0
theorem EK.dk {N B S Z n:Nat} {f:FF} (kb:A4 N B S Z) (k:EK N B Z n f) (hn1:1<=n):dk f n<=10000:=by
 obtain⟨hs,hp,hd⟩:=k.good;have:=(uy hp (n-1) (by omega)).2;rw[show n-1+1=n by omega]at this;omega
theorem EK.ex {N B S Z n:Nat} {f:FF} (kb:A4 N B S Z) (k:EK N B Z n f) (hn1:1<=n) (hn:n<=N): ∃h T,RedR h n/\Rch n f idF h T:=by
 obtain⟨h,T,hr⟩:=oW (f0:=f) kb hn _ f idF 0 0 (Nat.le_refl _) k.st;exact⟨h,T,Ml kb hn1 hn (k.dk kb hn1) hr 0 0 k.st,hr⟩
theorem NB {n:Nat} {f:FF} (hn1:1<=n) (hn:n<=8) (hb:Ba f) (hg:GoodP n f):EK 8 bB 41 n f:=
 ⟨hg,fun i j _ _=>(hb.i64 i j).sz (by omega),RedI.start hn1 hn hg.1 hg.2.1 (fun a b=>by have:=hb a b;omega) (fun a b _ _=>B4 a b)⟩
theorem EL {N B S Z:Nat} (kb:A4 N B S Z) (n:Nat) (f h T:FF) (hn1:1<=n) (hn:n<=N) (k:EK N B Z n f) (hred:RedR h n) (hr:Rch n f idF h T):
  CallC Tryz.prog 25 [bE (bu n n f)] ⟨de 0 n n h,.tup [(false,[.sl 0 0 0 n]),(false,[.p (.sl (ls (fR fZ) (bu n n T)))]),(false,[.p (.raw (.int .i64 0))])]⟩:=by
 have hn8:n<=8:=az hn kb.n8;have hst:=k.st;obtain⟨hs,hp,hd⟩:=k.good;have hsz: ∀i j,i<n->j<n->Sz (f i j) 1024:=fun i j hi hj=>(k.sz i j hi hj).mono (by omega)
 obtain⟨e,he,c1⟩:=kX n n f hn1 (by omega) hn1 (by omega) hsz;have he0:e=0:=he.2 ⟨rfl,hn8,hs,hp⟩;subst he0;have c2:=AK n f hn1 (by omega) hsz;rw[decide_eq_true hd]at c2;have c3:=GR n n f (by omega) hn1 (by omega) (fun i j hi hj=>(hsz i j hi hj).mono (by omega));have c4:=sK n hn1 (by omega);have hml:=aV n n f;refine aJ Tryz.func25 rfl (by kernel_rfl) ?_;rw[Tryz.ntmps25];refine aD fun _ K=>?_;simp only[kd,aa,bE,ae];apply K
 refine aE (aG [⟨1,_,_,_,c1⟩] [] fun _ K=>?_);simp only[kd,bE,aa];apply K;refine aD fun _ K=>?_;simp(disch:=omega) only[kd];apply K
 refine aO rfl (aL ?_);show bs _ _ _ _;refine aE (aG [⟨1,_,_,_,c2⟩] [] fun _ K=>?_);simp only[kd,bE,aa];apply K;refine aO rfl (aL ?_);show bs _ _ _ _;refine aG [⟨1,_,_,_,c3⟩] [] fun _ K=>?_;simp only[kd,bE,aa];apply K
 refine aG [⟨2,_,_,_,c4⟩] [] fun _ K=>?_;simp only[kd,aa,hml,ab];apply K
 refine aT (G:=Qq N B Z n f h T) (fun g=>⟨(j4 (jk::jk::bE (bu n n g.f)::bE (bu n n g.t)::j16 (j16 (j4 (j4 (jk::[])))))),Hm []⟩) (fun g=>Nw S n g.f g.s) ⟨f,idF,0,0,hst,hr⟩ ?_ ?_
 ·refine(aF (tm:=(j4 (jk::jk::.one (.sl 22 0 0 n)::.one (.sl 26 0 0 n)::j16 (j16 (j4 (j4 (jk::[]))))))) (l:=[(22,gI 22 n n f),(26,gI 26 n n idF)]) ⟨gy 0 22 n n _,gy 0 26 n n _,trivial⟩ (by simp[wk])).trans ((bW 22 (jO rfl)).trans ((aF (tm:=(j4 (jk::jk::bE (bu n n f)::.one (.sl 26 0 0 n)::j16 (j16 (j4 (j4 (jk::[]))))))) (l:=[(26,gI 26 n n idF)]) ⟨rfl,trivial⟩ (by
   simp[wk];exact⟨(Nv (H:=Hm [(22,gI 22 n n f),(26,gI 26 n n idF)]) (d:=22) (n:=n) (c:=n) (f:=f) rfl).symm,rfl⟩)).trans ((bW 26 (jO rfl)).trans (aF trivial ?_))))
  simp[wk];exact⟨rfl,(Nv (H:=Hm [(26,gI 26 n n idF)]) (d:=26) (n:=n) (c:=n) (f:=idF) rfl).symm⟩
 rintro⟨g,t,s,adds,hI,hrc⟩;simp only;have cs:=O0 n g hn1 hn8 hI.dfn.pos (fun i j hi hj=>(hI.szf kb hn hi hj).mono (by omega));cases hc:scanF g n with
 |none=>
  obtain⟨rfl,rfl⟩:g=h/\t=T:=by
   cases hrc with
   |done _ _ _=>exact⟨rfl,rfl⟩
   |step _ _ _ _ c hc' _=>rw[hc]at hc';cases hc'
  have hes:=kx hn1 hn8 hred;have ct:=G0 n n g hn1 (by omega) hn1 (by omega) (fun i j hi hj=>by have:=hes i hi j hj;exact⟨by omega,by omega⟩);rw[hc]at cs;refine aK ?_;refine aG [⟨1,_,_,_,cs⟩] [] fun _ K=>?_;simp only[kd,bE,Pp,aa];apply K
  refine aE (aD fun _ K=>?_);simp only[kd];apply K;refine aS rfl ?_;refine aG [⟨1,_,_,_,ct⟩] [] fun _ K=>?_;simp only[kd,bE,lE,aa];apply K
  refine bs.weak (aF (tm:=(j4 (jk::jk::jk::bE (bu n n t)::jk::jk::jk::.one (.sl 38 0 0 n)::j16 (j16 (j4 (jk::[])))))) (l:=[(38,de 38 n n g)]) ⟨cx 0 38 _ _ _,trivial⟩ (by simp[wk])) ?_;refine aD fun _ K=>?_;simp only[kd,aa,bE];apply K
  refine aI ⟨.inr rfl,_,ca.refl _,?_⟩;refine⟨.tup [(false,[.sl 38 0 0 n]),(false,[.p (.sl (ls (fR fZ) (bu n n t)))]),(false,[.p (.raw (.int .i64 0))])],38,?_,uU (by simp[iR,dX]) (by decide),(cx 38 0 _ _ _).symm,rfl⟩;simp(disch:=omega) only[kd,Tryz.results25]
 |some c=>
  have hrc':Rch n (QE g c) (gX n t (Ns g c)) h T:=by
   cases hrc with
   |done _ _ hc'=>rw[hc]at hc';cases hc'
   |step _ _ _ _ c' hc' hr'=>
    rw[hc]at hc';injection hc' with hc'
    subst hc';exact hr'
  rw[hc]at cs;have hch:=FI kb hI hn hc;have ha:=hI.adds_le kb hn;have cc:=rq n g (Ns g c) hn1 (by omega) (fun i j hi hj=>(hI.szf kb hn hi hj).mono (by omega)) (fun i j hi hj=>(hch i j hi hj).mono (by omega));rw[Oe g hc]at cc;have cp:=qu n n n t (Ns g c) hn1 (by omega) hn1 (by omega) hn1 (by omega) (fun i j hi hj=>(hI.szt i j hi hj).mono (az (Nat.add_le_add_left (Nat.mul_le_mul_left (Z+4) ha) 1) (by have:=kb.sz;omega))) (fun i j hi hj=>(hch i j hi hj).mono (by omega));refine aK ?_;refine aG [⟨1,_,_,_,cs⟩] [] fun _ K=>?_;simp only[kd,bE,Pp,aa];apply K
  refine aE (aD fun _ K=>?_);simp only[kd];apply K;refine aO rfl (aL ?_);show bs _ _ _ _;refine kp [⟨2,_,_,_,cc⟩,⟨5,_,_,_,cp⟩] [] fun _ K=>?_;simp only[kd,bE,aa,Nat.reduceBEq];apply K
  cases c with
  |add i j=>
   refine⟨⟨_,_,s,adds+1,(hI.add kb hn hc).1,hrc'⟩,hI.mu_add kb hn hc,aF trivial ?_⟩;simp[wk];exact⟨rfl,rfl⟩
  |swp m=>
   refine⟨⟨_,_,s+1,adds,hI.swap kb hn hc,hrc'⟩,hI.mu_swap kb hn hc,aF trivial ?_⟩;simp[wk];exact⟨rfl,rfl⟩
theorem xD {f:FF} (h0: ∀a b,a≠b->f a b=0) (h1: ∀a,0<f a a): ∀k,(0<dk f k/\ ∀t,t<k->0<dk f (t+1))/\ ∀a b,k<=a->k<=b->bk f k a b=dk f k*f a b
 |0=>⟨⟨by rw[dv];omega,fun t ht=>by omega⟩,fun a b _ _=>by rw[dG,dv,Int.one_mul]⟩
 |k+1=>by
  obtain⟨⟨p0,p1⟩,p2⟩:=xD h0 h1 k;have e:dk f (k+1)=dk f k*f k k:=by rw[b8,p2 k k (by omega) (by omega)]
  have hpos:0<dk f (k+1):=by rw[e];exact Int.mul_pos p0 (h1 k)
  refine⟨⟨hpos,fun t ht=>?_⟩,fun a b ha hb=>?_⟩
  ·by_cases et:t=k
   ·subst et;exact hpos
   exact p1 t (by omega)
  have s:=sylv f k (fun t ht=>by have:=p1 t ht;omega) a b;rw[p2 a b (by omega) (by omega),p2 a k (by omega) (by omega),h0 a k (by omega),Int.mul_zero,Int.zero_mul,Int.sub_zero]at s;refine Int.eq_of_mul_eq_mul_left (show dk f k≠0 by omega) ?_;rw[s];exact Int.mul_left_comm _ _ _
theorem DD {f:FF} (h0: ∀a b,a≠b->f a b=0) (h1: ∀a,0<f a a) (h2: ∀a,f a a<=2): ∀k,dk f k<=2^k
 |0=>by rw[dv];decide
 |k+1=>by
  obtain⟨⟨p0,_⟩,p2⟩:=xD h0 h1 k;rw[b8,p2 k k (by omega) (by omega),Int.pow_succ];have ih:=DD h0 h1 h2 k;exact Int.mul_le_mul ih (h2 k) (Int.le_of_lt (h1 k)) (Int.le_trans (Int.le_of_lt p0) ih)
theorem H4 (L:List Int) (p n:Nat) (hn1:1<=n) (hn:n<=8):GoodP n (gC L p 2):=by
 have h0: ∀a b,a≠b->gC L p 2 a b=0:=fun a b h=>by unfold gC;rw[if_neg h]
 have h1: ∀a,0<gC L p 2 a a:=fun a=>by unfold gC;rw[if_pos rfl];omega
 have h2: ∀a,gC L p 2 a a<=2:=fun a=>by
  unfold gC;rw[if_pos rfl];have:=li (n:=2) L (ko L p a) (by omega);omega
 have hpos: ∀k,0<dk (gC L p 2) (k+1):=fun k=>(xD h0 h1 (k+1)).1.1
 have hdet: ∀k,detF (k+1) (gC L p 2)=dk (gC L p 2) (k+1):=fun k=>r7 fun t _=>by have:=hpos t;omega
 refine⟨fun a _ b _=>?_,fun k _=>by rw[hdet];exact hpos k,?_⟩
 ·by_cases e:a=b
  ·rw[e]
  rw[h0 a b e,h0 b a (Ne.symm e)]
 have e:=hdet (n-1);rw[show n-1+1=n by omega]at e;rw[e];have h3:=DD h0 h1 h2 n;have h4:(2:Int)^n<=2^8:=by
  have:=Nat.pow_le_pow_right (show 0<2 by omega) hn
  exact_mod_cast this
 have h5:(2:Int)^8=256:=by decide
 omega
theorem tO (kind:Nat) (L:List Int) (n:Nat) (hn1:1<=n) (hn:n<=8):GoodP n (ma kind L n)/\Ba (ma kind L n):=by
 unfold ma;split
 ·rename_i h;exact⟨h,Ei kind L n⟩
 exact⟨H4 L _ n hn1 hn,xC (by omega) (by omega)⟩
theorem KY (dim kind:Nat) (L B:List Int) (most n:Nat) (h T:FF) (hL:I8 L) (hdim:dim<=255) (hkind:kind<=255) (hm1:1<=most) (hm8:most<=8) (hn:n=1+dim%most) (hr:RedR h n) (hT:Rch n (ma kind L n) idF h T):
  CallC Tryz.prog 16 [tL dim kind L B,.raw (.int .i64 (most:Int))] ⟨de 0 n n h,.one (.sl 0 0 0 n)⟩:=by
 have hn1:1<=n:=by omega
 have hn8:n<=8:=by have:=Nat.mod_lt dim (show 0<most by omega);omega
 have c1:=NQ dim kind L B most n hL hdim hkind hm1 hm8 hn;obtain⟨hg,hb⟩:=tO kind L n hn1 hn8;have c3:=EL QC n (ma kind L n) h T hn1 hn8 (NB hn1 hn8 hb hg) hr hT;have c2:=EJ n n (ma kind L n) hn1 (by omega) hn1 (by omega) (fun i j _ _=>hb.i64 i j);generalize ma kind L n=gg at*
 refine aJ Tryz.func16 rfl (by kernel_rfl) ?_;rw[Tryz.ntmps16];refine aD fun _ K=>?_;simp(disch:=omega) only[kd,tL,aa,ae];apply K
 refine aG [⟨2,_,_,_,c1⟩,⟨3,_,_,_,c2⟩,⟨4,_,_,_,c3⟩] [] fun _ K=>?_;simp only[kd,tL,bi,bE,aa,Nat.reduceBEq,ab];apply K
 refine bs.weak (aF (tm:=(j4 (jk::.one (.sl 13 0 0 n)::j4 (j4 (j4 ([])))))) (l:=[(13,de 13 n n h)]) ⟨cx 0 13 _ _ _,trivial⟩ (by simp[wk])) ?_;refine aD fun _ K=>?_;simp only[kd];apply K
 refine aI ⟨.inr rfl,_,ca.refl _,?_⟩;refine⟨.one (.sl 13 0 0 n),13,?_,rfl,(cx 13 0 _ _ _).symm,rfl⟩;simp(disch:=omega) only[kd,Tryz.results16]
theorem KX (dim kind:Nat) (L B:List Int) (most n:Nat) (h T:FF) (hL:I8 L) (hdim:dim<=255) (hkind:kind<=255) (hm1:1<=most) (hm8:most<=8) (hn:n=1+dim%most) (hr:RedR h n) (hT:Rch n (ma kind L n) idF h T):
  CallC Tryz.prog 16 [tL dim kind L B,.raw (.int .i64 (most:Int))] ⟨[],bi (bu n n h)⟩:=
 (KY dim kind L B most n h T hL hdim hkind hm1 hm8 hn hr hT).fzI
theorem NP (kind:Nat) (L:List Int) {n:Nat} (hn1:1<=n) (hn8:n<=8): ∃h T,RedR h n/\Rch n (ma kind L n) idF h T:=by
 obtain⟨hg,hb⟩:=tO kind L n hn1 hn8;exact(NB hn1 hn8 hb hg).ex QC hn1 hn8
theorem GS (dim kind:Nat) (L B:List Int) (most n:Nat) (hL:I8 L) (hdim:dim<=255) (hkind:kind<=255) (hm1:1<=most) (hm8:most<=8) (hn:n=1+dim%most):
  ∃h,RedR h n/\CallC Tryz.prog 16 [tL dim kind L B,.raw (.int .i64 (most:Int))] ⟨[],bi (bu n n h)⟩:=by
 obtain⟨h,T,h1,h2⟩:=NP kind L (n:=n) (by omega) (by have:=Nat.mod_lt dim (show 0<most by omega);omega);exact⟨h,h1,KX dim kind L B most n h T hL hdim hkind hm1 hm8 hn h1 h2⟩
theorem GV {h:FF} {n:Nat} (hn1:1<=n) (hn:n<=8) (hr:RedR h n):MI (bu n n h):=fun r hr' z hz=>by
 obtain⟨i,hi,rfl⟩:=List.mem_map.1 hr';obtain⟨j,hj,rfl⟩:=List.mem_map.1 hz;have:=kx hn1 hn hr i (List.mem_range.1 hi) j (List.mem_range.1 hj);exact⟨by omega,by omega⟩
section
open Go.ChangeShapes Go.WideShapes Go.ChangeAt Go.RowKit
theorem Mm {w:World} {l:List Int} {A:Option Addr} {c:Nat} (hl:l.length<=c) (hm:l.length<=9223372036854775807) (h:RdI .i8 w A l):cu (fun _=>False) w (.sl (ls f8 l)) (.slice A l.length c):=by
 cases l with
 |nil=>exact cu.nil _ _
 |cons z0 l0=>
  obtain⟨b,off,rfl,hc⟩:=h (by simp);have h0:=hc 0 (.int .i8 z0) (by simp);have hb:b<w.heap.size:=jL h0;have:=cu.sl (X:=fun _=>False) (w:=w) b off 1 c (ls f8 (z0::l0)) (fun i _=> .int .i8 ((z0::l0).getD i 0)) (fun h=>h) hb (fun e he=>by
   obtain⟨z,_,rfl⟩:=List.mem_map.1 he;rfl) (by rw[dW];exact hl) (by rw[dW];exact hm) (fun i e j x he hx=>by
   rw[fv]at he;obtain⟨z,hz,rfl⟩:=Option.map_eq_some_iff.1 he;cases j with
   |succ j=>simp[f8]at hx
   |zero=>
    have:=hc i (.int .i8 z) (by rw[List.getElem?_map,hz];rfl);simp only[Nat.mul_one,Nat.add_zero,List.getD_eq_getElem?_getD,hz,Option.getD_some];exact this) (fun i e j x he hx=>by
   rw[fv]at he;obtain⟨z,hz,rfl⟩:=Option.map_eq_some_iff.1 he;cases j with
   |succ j=>simp[f8]at hx
   |zero=>
    simp[f8]at hx;subst hx;simp only[List.getD_eq_getElem?_getD,hz,Option.getD_some];exact cu.raw _ rfl)
  rw[dW]at this;exact this
theorem lQ {H:Type} {enc:TypeId×Value->H} {P:Program} {W:World} {base:Nat} {held:Bool} {t e:TypeId} {n:Nat} {v:Value} {y:DataW H×List MemPlace}
  (ht:P.underlying t=some (.slice e)) (he:P.underlying e=some (.int .i8)) (hc:P.cellsOf e=1) (h:DataW.trod enc P W base (fun _=>true) held n t [v]=some y):
  ∃L:List Int,cu (fun _=>False) W (.sl (ls f8 L)) v/\I8 L:=by
 rcases DataW.trod_slice ht h with⟨hcs,_⟩|⟨x,l,c,_,_,_,_,hcs,_⟩
 ·simp at hcs;subst hcs;exact⟨[],cu.nil _ _,fun z hz=>by simp at hz⟩
 simp at hcs;subst hcs;obtain⟨zs,g1,g2,g3,g4,g5,_⟩:=Aj (enc:=enc) (base:=base) (held:=held) (d:=y.1) (p:=y.2) ht he hc ⟨n,by simpa[Value.cells] using h⟩;refine⟨zs,?_,fun z hz=>KH (g5 z hz)⟩;rw[g1];unfold maxLen at g3;exact Mm (by omega) (by omega) g4
theorem lR {H:Type} {enc:TypeId×Value->H} {P:Program} {W:World} {base:Nat} {held:Bool} {t:TypeId} {n:Nat} {v:Value} {y:DataW H×List MemPlace}
  (ht:P.underlying t=some (.int .u8)) (h:DataW.trod enc P W base (fun _=>true) held n t [v]=some y): ∃m:Nat,v= .int .u8 (m:Int)/\m<=255:=by
 obtain⟨m,hv,_,hw⟩:=DataW.trod_int ht h;have:=KI hw;refine⟨m.toNat,?_,by omega⟩;simp at hv;rw[hv]
 congr 1
 omega
theorem NC {w:World} {d k:Nat} {L B:List Int} {v2 v3:Value} (h2:cu (fun _=>False) w (.sl (ls f8 L)) v2) (h3:cu (fun _=>False) w (.sl (ls f8 B)) v3):
  (tL d k L B).rel (fun _ _=>none) (fun _=>[]) (fun _=>False) w (.agg #[.int .u8 (d:Int),.int .u8 (k:Int),v2,v3]):=by
 refine⟨#[.int .u8 (d:Int),.int .u8 (k:Int),v2,v3],rfl,rfl,fun j x hx=>?_⟩
 match j,hx with
 |0,hx=>simp at hx;subst hx;exact⟨_,rfl,rfl,cu.raw _ rfl⟩
 |1,hx=>simp at hx;subst hx;exact⟨_,rfl,rfl,cu.raw _ rfl⟩
 |2,hx=>simp at hx;subst hx;exact⟨_,rfl,h2.one,h2⟩
 |3,hx=>simp at hx;subst hx;exact⟨_,rfl,h3.one,h3⟩
 |j+4,hx=>simp at hx
theorem Nr {w:World}: ∀{ts:List TV} {vs:List Value},ts.length=vs.length->(∀(j:Nat) t v,ts[j]?=some t->vs[j]?=some v->t.rel (fun _ _=>none) (fun _=>[]) (fun _=>False) w v)->
  ∀(j:Nat) t,ts[j]?=some t-> ∃v:Value,vs.toArray[j]?=some v/\t.rel (fun _ _=>none) (fun _=>[]) (fun _=>False) w v:=fun{ts vs} hl h j t hj=>by
 have hlt:=(List.getElem?_eq_some_iff.1 hj).1;obtain⟨v,hv⟩: ∃v,vs[j]?=some v:=⟨_,List.getElem?_eq_getElem (by omega)⟩;exact⟨v,by simpa using hv,h j t v hj hv⟩
end
def fl (c:Nat) (g:FF):Nat->Int:=fun k=>g (k/c) (k%c)
theorem PO {c:Nat} (g:FF) {i j:Nat} (hj:j<c):fl c g (i*c+j)=g i j:=by
 unfold fl;have h:=xE (i:=i) (j:=j) (sz:=c) hj;rw[h.1,h.2]
theorem pw {n c:Nat} {g g':FF} (h: ∀a b,a<n->b<c->g a b=g' a b):bG (n*c) (fl c g)=bG (n*c) (fl c g'):=fG fun k hk=>by
 have hc:0<c:=by
  rcases Nat.eq_zero_or_pos c with h|h
  ·subst h;simp at hk
  exact h
 exact h _ _ (Nat.div_lt_of_lt_mul (by rw[Nat.mul_comm];exact hk)) (Nat.mod_lt _ hc)
theorem In {n c i j:Nat} (g:FF) {v:Int} (hi:i<n) (hj:j<c):(bG (n*c) (fl c g)).set (i*c+j) v=bG (n*c) (fl c (upd g i j v)):=by
 rw[pY];refine fG fun k hk=>?_
 have hc:0<c:=by omega
 unfold fl upd;by_cases h:k=i*c+j
 ·subst h;have h:=xE (i:=i) (j:=j) (sz:=c) hj;rw[h.1,h.2];simp
 rw[if_neg h];by_cases h1:k/c=i
 ·have h2:k%c≠j:=fun hh=>h (by
   have:=Nat.div_add_mod k c;rw[h1,hh,Nat.mul_comm]at this;exact this.symm)
  rw[if_pos h1];show _=if k%c=j then v else g i (k%c)
  rw[if_neg h2,h1]
 rw[if_neg h1]
theorem D1 (l:List Int) (k:Nat) (v:Int):(lc fZ l).set k [.p (.raw (.bool (decide (v<0)))),.p (.sl (ls fU (aR v.natAbs)))]=lc fZ (l.set k v):=by
 rw[<- xQ];rfl
def CU (d n c i:Nat):List (List AV):=(List.range n).map fun k=>if k<i then[.sl d 1 (k*c) c]else[.p (.sl [])]
def yz (d n c i:Nat) (g:FF):List OObj:=[⟨84,1,CU d n c i⟩,⟨42,2,lc fZ (bG (n*c) (fl c g))⟩]
theorem qi (d n c i:Nat):(CU d n c i).length=n:=by simp[CU]
theorem j1 {d n c i k:Nat} (h:k<n):(CU d n c i)[k]?=some (if k<i then[.sl d 1 (k*c) c]else[.p (.sl [])]):=by
 unfold CU;rw[List.getElem?_map,List.getElem?_range h];rfl
theorem Ex {d n c i:Nat}:(CU d n c i).set i [.sl d 1 (i*c) c]=CU d n c (i+1):=by
 apply List.ext_getElem?;intro k;by_cases hk:k<n
 ·by_cases h:k=i
  ·subst h;rw[List.getElem?_set_self (by rw[qi];exact hk),j1 hk,if_pos (Nat.lt_succ_self k)]
  rw[List.getElem?_set_ne (Ne.symm h),j1 hk,j1 hk];by_cases h2:k<i
  ·rw[if_pos h2,if_pos (by omega)]
  rw[if_neg h2,if_neg (by omega)]
 rw[aq (by rw[List.length_set,qi];omega),aq (by rw[qi];omega)]
theorem AR (d n c:Nat):([⟨84,1,ae n [.raw (.slice none 0 0)]⟩]:List OObj).map zO=[⟨84,1,CU d n c 0⟩]:=by
 simp[zO,CU,yH,yQ,List.map_const']
theorem Ez (n c:Nat) (g:FF):([⟨42,2,ae (n*c) [.raw (.bool false),.raw (.slice none 0 0)]⟩]:List OObj).map zO=[⟨42,2,lc fZ (bG (n*c) (fl c (part g 0 0)))⟩]:=by
 have e2:bG (n*c) (fl c (part g 0 0))=ae (n*c) 0:=by
  apply List.ext_getElem?;intro b;by_cases hb:b<n*c
  ·rw[aU _ hb,List.getElem?_replicate,if_pos hb];simp[fl,part]
  rw[aq (by rw[bz];omega),aq (by simp;omega)]
 simp[e2,zO,lc,fZ,yH,yQ,cj,ls]
theorem AQ (ty d n c:Nat):pM ⟨ty,1,CU d n c 0⟩:=fun e he x hx=>by
 simp only[CU,ak]at he;obtain⟨k,_,rfl⟩:=he;simp at hx;subst hx;rfl
theorem Ey {H:OH} {d n c i:Nat} {g:FF} (h:H d=yz d n c i g):vw H d:=fun r o ho e he x hx=>by
 rw[h]at ho
 match r,ho with
 |0,ho=>
  simp[yz]at ho;subst ho;simp only[CU,ak]at he;obtain⟨k,_,rfl⟩:=he;split at hx
  ·simp at hx;subst hx;exact .inr ⟨1,_,_,⟨42,2,lc fZ (bG (n*c) (fl c g))⟩,rfl,by rw[h];rfl,eA _ _ _⟩
  simp at hx;subst hx;exact .inl rfl
 |1,ho=>
  simp[yz]at ho;subst ho;exact .inl (eA _ _ _ e he x hx)
 |r+2,ho=>simp[yz]at ho
theorem Gb {n c i:Nat} (g:FF) (hi:i<n):((bG (n*c) (fl c g)).take (i*c+c)).drop (i*c)=bG c (g i):=by
 have hk:i*c+c<=n*c:=by
  have:=Nat.mul_le_mul_right c hi;rw[Nat.succ_mul]at this;exact this
 apply List.ext_getElem?;intro j;rw[List.getElem?_drop,List.getElem?_take];by_cases hj:j<c
 ·rw[if_pos (by omega),aU _ (by omega),PO g hj,aU _ hj]
 rw[if_neg (by omega),aq (by rw[bz];omega)]
theorem Kd {H:OH} {n c:Nat} {g:FF} (_hc:1<=c) (h:H 5016=yz 5016 n c n g):gW H 5016 (.one (.sl 5016 0 0 n))= .one (.p (.sl (ls (fR fZ) (bu n c g)))):=by
 have h0:(H 5016)[0]?=some ⟨84,1,CU 5016 n c n⟩:=by rw[h];rfl
 have h1:(H 5016)[1]?=some ⟨42,2,lc fZ (bG (n*c) (fl c g))⟩:=by rw[h];rfl
 simp only[gW,fD,if_true,h0]
 congr 3
 rw[Nat.zero_add,List.drop_zero,List.take_of_length_le (by rw[qi];exact Nat.le_refl _)];apply List.ext_getElem?;intro k;rw[List.getElem?_map,fv];by_cases hk:k<n
 ·rw[j1 hk,if_pos hk,bD c g hk];simp only[Option.map_some,List.map_cons,List.map_nil,jK,h1,gu,xN,Gb g hk,se];rfl
 rw[aq (by rw[qi];omega),aq (by rw[aV];omega)];rfl
theorem MQ (fu:FuncId) (cs1:List PV) (n c:Nat) (g:FF) (hn1:1<=n) (hn:n<=16) (hc1:1<=c) (hc:c<=16)
  (hf: ∀i j,i<n->j<c->CallC Tryz.prog fu [.raw (.int .i64 (i:Int)),.raw (.int .i64 (j:Int)),.one (.p (.ptr cs1))] ⟨[],tZ (g i j)⟩):
  CallC Tryz.prog 146 [.raw (.int .i64 (n:Int)),.raw (.int .i64 (c:Int)),.fn fu [.p (.ptr cs1)]] ⟨[],bE (bu n c g)⟩:=by
 have hN:n*c<=256:=az (Nat.mul_le_mul hn hc) (by omega);have e0:IntKind.i64.wrap ((n:Int)*(c:Int))=((n*c:Nat):Int):=by rw[<- Int.natCast_mul];exact aP (by omega) (by omega)
 refine aJ Tryz.func146 rfl (by kernel_rfl) ?_;rw[Tryz.ntmps146];refine aD fun _ K=>?_;simp only[kd,aa,ae];apply K
 refine aD fun _ K=>?_;simp(disch:=omega) only[kd,aa,e0];apply K
 refine aD fun _ K=>?_;simp(disch:=omega) only[kd,aa,ab];apply K
 refine bs.weak ((eE 14).trans ((eE 16).trans ((vO 16 14 5016 (oa:=⟨84,1,CU 5016 n c 0⟩) (oe:=⟨42,2,lc fZ (bG (n*c) (fl c (part g 0 0)))⟩) ?_ ?_ rfl (AQ _ _ _ _) (eA _ _ _) (by omega) (by omega) (by omega)).trans (aF (tm:=(jk::rN c::.fn fu [.p (.ptr cs1)]::j4 (.one (.sl 5016 1 0 (n*c))::.one (.sl 5016 0 0 n)::j16 (j16 (j16 (jk::jk::[])))))) (l:=[(5016,yz 5016 n c 0 (part g 0 0))]) ⟨rfl,trivial⟩ ?_)))) ?_
 ·exact AR 5016 n c
 ·exact Ez n c g
 ·simp[wk,LH,qJ]
 simp only[yz];refine aE (aD fun _ K=>?_);simp only[kd,aa];apply K;refine aT (G:=jD n) (fun q=>⟨(jk::rN c::.fn fu [.p (.ptr cs1)]::j4 (.one (.sl 5016 1 0 (n*c))::.one (.sl 5016 0 0 n)::j4 (j4 (.one (.sl 5016 0 0 n)::rN n::rN q.i::j16 (j16 (j4 (jk::jk::jk::[]))))))),Hm [(5016,yz 5016 n c q.i (part g q.i 0))]⟩) (fun q=>n-q.i) ⟨0,by omega⟩ ?_ ?_
 ·refine aF ⟨rfl,trivial⟩ ?_;simp[wk]
 rintro⟨i,hi⟩;simp only;by_cases hm:i<n
 ·have k1:i*c<(i+1)*c:=by rw[Nat.add_mul];omega
  have k2:(i+1)*c<=n*c:=Nat.mul_le_mul_right _ hm;have k3:(i+1)*c-i*c=c:=by rw[Nat.add_mul];omega
  have e1:IntKind.i64.wrap ((i:Int)*(c:Int))=((i*c:Nat):Int):=by rw[<- Int.natCast_mul];exact aP (by omega) (by omega)
  have e2:IntKind.i64.wrap (((i:Int)+1)*(c:Int))=(((i+1)*c:Nat):Int):=by
   have:((i:Int)+1)*(c:Int)=(((i+1)*c:Nat):Int):=by rw[Int.natCast_mul];rfl
   rw[this];exact aP (by omega) (by omega)
  have t1:=j1 (d:=5016) (n:=n) (c:=c) (i:=i) hm;rw[if_neg (Nat.lt_irrefl i)]at t1;have t2:=Ex (d:=5016) (n:=n) (c:=c) (i:=i);have t3:=j1 (d:=5016) (n:=n) (c:=c) (i:=i+1) (k:=i) hm;rw[if_pos (Nat.lt_succ_self i)]at t3;refine aD fun _ K=>?_;simp(disch:=omega) only[kd];apply K
  refine bC rfl ?_;refine aE (aK ?_);refine aD fun _ K=>?_;simp only[kd];apply K
  simp only[yz];refine aD fun _ K=>?_;simp(disch:=omega) only[kd,aa,e1,aP,e2,k1,k2,ah,k3,t1,t2];apply K
  refine aD fun _ K=>?_;simp(disch:=omega) only[kd,aa,t3];apply K
  refine aT (G:=jD c) (fun q=>⟨(jk::rN c::.fn fu [.p (.ptr cs1)]::j4 (.one (.sl 5016 1 0 (n*c))::.one (.sl 5016 0 0 n)::rN i::j4 (jk::jk::jk::.one (.sl 5016 0 0 n)::rN n::rN i::j16 (j4 (jk::jk::rN c::rN q.i::j4 (j4 (j4 (jk::jk::jk::[])))))))),Hm [(5016,yz 5016 n c (i+1) (part g i q.i))]⟩) (fun q=>c-q.i) ⟨0,by omega⟩ ?_ ?_
  ·refine aF ⟨rfl,trivial⟩ ?_;simp[wk]
  rintro⟨j,hj⟩;simp only;by_cases hm2:j<c
  ·have hS:=hf i j hm hm2;have hk:i*c+j<n*c:=by omega
   have g1:=aU (fl c (part g i j)) hk;have g2:=In (n:=n) (c:=c) (part g i j) (v:=g i j) hm hm2;refine aD fun _ K=>?_;simp(disch:=omega) only[kd];apply K
   refine bC rfl ?_;refine aE (aK ?_);refine aD fun _ K=>?_;simp only[kd];apply K
   simp only[yz];refine d7 aZ [⟨8,_,_,_,hS⟩] [] (by kernel_rfl) fun _ K=>?_;simp(disch:=omega) only[kd,tZ,aa,t3,fZ,g1,D1,g2];apply K
   show bs _ _ _ _;refine aM fun _ K=>?_;simp(disch:=omega) only[kd,aP];apply K
   refine⟨⟨j+1,by omega⟩,by simp only;omega,aF ⟨?_,trivial⟩ ?_⟩
   ·show[_,_]=[_,_];rw[pw fun a b _ _=>je g i j a b]
   simp[wk]
  have hjc:j=c:=by omega
  subst hjc;refine aD fun _ K=>?_;simp(disch:=omega) only[kd];apply K
  refine bJ rfl ?_;show bs _ _ _ _;refine aM fun _ K=>?_;simp(disch:=omega) only[kd,aP];apply K
  refine⟨⟨i+1,by omega⟩,by simp only;omega,aF ⟨?_,trivial⟩ ?_⟩
  ·show[_,_]=[_,_];rw[pw fun a b _ hb=>kH g i a b hb]
  simp[wk]
 have hin:i=n:=by omega
 subst hin;refine aD fun _ K=>?_;simp(disch:=omega) only[kd];apply K
 refine bJ rfl ?_;show bs _ _ _ _;refine aD fun _ K=>?_;simp only[kd];apply K
 refine bs.weak ((bW 5016 (Ey rfl)).trans (aF (tm:=(j4 (jk::jk::bE (bu i c g)::j16 (j16 (j16 (j4 ([]))))))) (l:=[]) trivial ?_)) ?_
 ·have e:=Kd (c:=c) (H:=Hm [(5016,yz 5016 i c i (part g i 0))]) hc1 rfl;rw[fp fun a b ha _=>jw g a b ha]at e;simp[wk];exact e.symm
 (refine aI ⟨.inr rfl,aH rfl ?_ rfl⟩;simp(disch:=omega) only[kd,Tryz.results146,bE])
theorem MR (fu:FuncId) (cs1:List PV) (b:Nat) (ty:TypeId) (cs:List PV) (n c:Nat) (g:FF) (hn1:1<=n) (hn:n<=16) (hc1:1<=c) (hc:c<=16)
  (hf: ∀i j,i<n->j<c->CallT Tryz.prog b ty fu [.raw (.int .i64 (i:Int)),.raw (.int .i64 (j:Int)),.one (.p (.ptr cs1)),.raw (.pointer (some ⟨b,0,none⟩))] cs ⟨[],tZ (g i j)⟩ cs):
  CallT Tryz.prog b ty 146 [.raw (.int .i64 (n:Int)),.raw (.int .i64 (c:Int)),.fn fu [.p (.ptr cs1),.p (.raw (.pointer (some ⟨b,0,none⟩)))]] cs ⟨[],bE (bu n c g)⟩ cs:=by
 have hN:n*c<=256:=az (Nat.mul_le_mul hn hc) (by omega);have e0:IntKind.i64.wrap ((n:Int)*(c:Int))=((n*c:Nat):Int):=by rw[<- Int.natCast_mul];exact aP (by omega) (by omega)
 refine my Tryz.func146 rfl (by kernel_rfl) ?_;rw[Tryz.ntmps146];refine be fun _ K=>?_;simp only[kd,aa,ae];apply K
 refine be fun _ K=>?_;simp(disch:=omega) only[kd,aa,e0];apply K
 refine be fun _ K=>?_;simp(disch:=omega) only[kd,aa,ab];apply K
 refine eZ.weak ((eE 14).trans ((eE 16).trans ((vO 16 14 5016 (oa:=⟨84,1,CU 5016 n c 0⟩) (oe:=⟨42,2,lc fZ (bG (n*c) (fl c (part g 0 0)))⟩) ?_ ?_ rfl (AQ _ _ _ _) (eA _ _ _) (by omega) (by omega) (by omega)).trans (aF (tm:=(jk::rN c::.fn fu [.p (.ptr cs1),.p (.raw (.pointer (some ⟨b,0,none⟩)))]::j4 (.one (.sl 5016 1 0 (n*c))::.one (.sl 5016 0 0 n)::j16 (j16 (j16 (jk::jk::[])))))) (l:=[(5016,yz 5016 n c 0 (part g 0 0))]) ⟨rfl,trivial⟩ ?_)))) ?_
 ·exact AR 5016 n c
 ·exact Ez n c g
 ·simp[wk,LH,qJ]
 simp only[yz];refine da (be fun _ K=>?_);simp only[kd,aa];apply K;refine mr (G:=jD n) (fun q=>⟨(jk::rN c::.fn fu [.p (.ptr cs1),.p (.raw (.pointer (some ⟨b,0,none⟩)))]::j4 (.one (.sl 5016 1 0 (n*c))::.one (.sl 5016 0 0 n)::j4 (j4 (.one (.sl 5016 0 0 n)::rN n::rN q.i::j16 (j16 (j4 (jk::jk::jk::[]))))))),Hm [(5016,yz 5016 n c q.i (part g q.i 0))]⟩) (fun _=>cs) (fun q=>n-q.i) ⟨0,by omega⟩ ?_ rfl ?_
 ·refine aF ⟨rfl,trivial⟩ ?_;simp[wk]
 rintro⟨i,hi⟩;simp only;by_cases hm:i<n
 ·have k1:i*c<(i+1)*c:=by rw[Nat.add_mul];omega
  have k2:(i+1)*c<=n*c:=Nat.mul_le_mul_right _ hm;have k3:(i+1)*c-i*c=c:=by rw[Nat.add_mul];omega
  have e1:IntKind.i64.wrap ((i:Int)*(c:Int))=((i*c:Nat):Int):=by rw[<- Int.natCast_mul];exact aP (by omega) (by omega)
  have e2:IntKind.i64.wrap (((i:Int)+1)*(c:Int))=(((i+1)*c:Nat):Int):=by
   have:((i:Int)+1)*(c:Int)=(((i+1)*c:Nat):Int):=by rw[Int.natCast_mul];rfl
   rw[this];exact aP (by omega) (by omega)
  have t1:=j1 (d:=5016) (n:=n) (c:=c) (i:=i) hm;rw[if_neg (Nat.lt_irrefl i)]at t1;have t2:=Ex (d:=5016) (n:=n) (c:=c) (i:=i);have t3:=j1 (d:=5016) (n:=n) (c:=c) (i:=i+1) (k:=i) hm;rw[if_pos (Nat.lt_succ_self i)]at t3;refine be fun _ K=>?_;simp(disch:=omega) only[kd];apply K
  refine xg rfl ?_;refine da (dO ?_);refine be fun _ K=>?_;simp only[kd];apply K
  simp only[yz];refine be fun _ K=>?_;simp(disch:=omega) only[kd,aa,e1,aP,e2,k1,k2,ah,k3,t1,t2];apply K
  refine be fun _ K=>?_;simp(disch:=omega) only[kd,aa,t3];apply K
  refine mr (G:=jD c) (fun q=>⟨(jk::rN c::.fn fu [.p (.ptr cs1),.p (.raw (.pointer (some ⟨b,0,none⟩)))]::j4 (.one (.sl 5016 1 0 (n*c))::.one (.sl 5016 0 0 n)::rN i::j4 (jk::jk::jk::.one (.sl 5016 0 0 n)::rN n::rN i::j16 (j4 (jk::jk::rN c::rN q.i::j4 (j4 (j4 (jk::jk::jk::[])))))))),Hm [(5016,yz 5016 n c (i+1) (part g i q.i))]⟩) (fun _=>cs) (fun q=>c-q.i) ⟨0,by omega⟩ ?_ rfl ?_
  ·refine aF ⟨rfl,trivial⟩ ?_;simp[wk]
  rintro⟨j,hj⟩;simp only;by_cases hm2:j<c
  ·have hS:=hf i j hm hm2;have hk:i*c+j<n*c:=by omega
   have g1:=aU (fl c (part g i j)) hk;have g2:=In (n:=n) (c:=c) (part g i j) (v:=g i j) hm hm2;refine be fun _ K=>?_;simp(disch:=omega) only[kd];apply K
   refine xg rfl ?_;refine da (dO ?_);refine be fun _ K=>?_;simp only[kd];apply K
   simp only[yz];refine lf aZ 8 hS [] [] (by kernel_rfl) (by kernel_rfl) (by rfl) (by rfl) fun _ K=>?_;simp(disch:=omega) only[kd,tZ,aa,t3,fZ,g1,D1,g2];apply K
   show eZ _ _ _ _ _ _ _;refine fo fun _ K=>?_;simp(disch:=omega) only[kd,aP];apply K
   refine⟨⟨j+1,by omega⟩,by simp only;omega,aF ⟨?_,trivial⟩ ?_,rfl⟩
   ·show[_,_]=[_,_];rw[pw fun a b _ _=>je g i j a b]
   simp[wk]
  have hjc:j=c:=by omega
  subst hjc;refine be fun _ K=>?_;simp(disch:=omega) only[kd];apply K
  refine xf rfl ?_;show eZ _ _ _ _ _ _ _;refine fo fun _ K=>?_;simp(disch:=omega) only[kd,aP];apply K
  refine⟨⟨i+1,by omega⟩,by simp only;omega,aF ⟨?_,trivial⟩ ?_,rfl⟩
  ·show[_,_]=[_,_];rw[pw fun a b _ hb=>kH g i a b hb]
  simp[wk]
 have hin:i=n:=by omega
 subst hin;refine be fun _ K=>?_;simp(disch:=omega) only[kd];apply K
 refine xf rfl ?_;show eZ _ _ _ _ _ _ _;refine be fun _ K=>?_;simp only[kd];apply K
 refine eZ.weak ((bW 5016 (Ey rfl)).trans (aF (tm:=(j4 (jk::jk::bE (bu i c g)::j16 (j16 (j16 (j4 ([]))))))) (l:=[]) trivial ?_)) ?_
 ·have e:=Kd (c:=c) (H:=Hm [(5016,yz 5016 i c i (part g i 0))]) hc1 rfl;rw[fp fun a b ha _=>jw g a b ha]at e;simp[wk];exact e.symm
 (refine np ⟨.inr rfl,rfl,aH rfl ?_ rfl⟩;simp(disch:=omega) only[kd,Tryz.results146,bE])
theorem dV (l:List Nat) (hb:l.length<=1073741824):CallC Tryz.prog 145 [bF l] ⟨[],bF (dR l)⟩:=by
 refine aJ Tryz.func145 rfl (by kernel_rfl) ?_;rw[Tryz.ntmps145];refine aD fun _ K=>?_;simp only[kd,bF,ae];apply K
 refine aE (aT (G:={n:Nat//n<=l.length/\dR l=dR (l.take n)}) (fun n=>⟨(bF (l.take n.1)::j16 (j4 ([]))),Hm []⟩) (fun n=>n.1) ⟨l.length,Nat.le_refl _,by simp⟩ ?_ ?_)
 ·refine aF trivial ?_;simp[wk]
 rintro⟨n,hn,hT⟩;simp only;have hlen:(l.take n).length=n:=by simp;omega
 by_cases h0:0<n
 ·obtain⟨a,ha⟩:=getElem?_of_lt (l:=l) (k:=n-1) (by omega);have e1:((n:Int)-1).toNat=n-1:=by omega
  have ha2:(l.take n)[n-1]?=some a:=by rw[List.getElem?_take,if_pos (by omega),ha]
  have htk:l.take n=l.take (n-1)++[a]:=by
   have:=List.take_succ_eq_append_getElem (i:=n-1) (l:=l) (by omega);rw[show n-1+1=n by omega]at this;rw[this,(List.getElem?_eq_some_iff.1 ha).2]
  refine aE (aD fun _ K=>?_);simp(disch:=omega) only[kd,aa,bF,hlen,aP,e1,ha2];apply K;refine bT rfl (fun hz=>aL ?_) (fun hz=>bK ?_)
  ·have hz':a=0:=by simpa using hz
   refine aK ?_;refine aM fun _ K=>?_;simp(disch:=omega) only[kd,aa,hlen,aP,e1,Cc xF];apply K
   refine⟨⟨n-1,by omega,?_⟩,by simp only;omega,aF trivial ?_⟩
   ·rw[hT,htk,hz',m9]
   simp[wk,List.take_take,Nat.min_eq_left (show n-1<=n by omega)]
  have hz':a≠0:=by intro e;simp[e]at hz
  have hfin:dR l=l.take n:=by rw[hT,htk,w7 hz']
  show bs _ _ _ _;refine aD fun _ K=>?_;simp(disch:=omega) only[kd];apply K
  (refine aI ⟨.inr rfl,aH rfl ?_ rfl⟩;simp(disch:=omega) only[kd,Tryz.results145,bF,hfin])
 have hn0:n=0:=by omega
 subst hn0;have hfin:dR l=l.take 0:=by rw[hT];simp[dR]
 refine aE (aD fun _ K=>?_);simp(disch:=omega) only[kd,aa,bF];apply K;refine bT rfl (fun hz=>by cases hz) (fun hz=>bK ?_);show bs _ _ _ _;refine aD fun _ K=>?_;simp only[kd];apply K
 (refine aI ⟨.inr rfl,aH rfl ?_ rfl⟩;simp(disch:=omega) only[kd,Tryz.results145,bF,hfin])
theorem eu (neg:Bool) (n:Nat):CallC Tryz.prog 141 [.raw (.bool neg),bF (aR n)] ⟨[],tZ (f4 neg n)⟩:=by
 by_cases h0:n=0
 ·subst h0;rw[cj,show tZ (f4 neg 0)= .agg [.p (.raw (.bool false)),.p (.sl (ls fU []))] by
   have:f4 neg 0=0:=by cases neg<;>rfl
   simp[this,tZ,cj]]
  refine aJ Tryz.func141 rfl (by kernel_rfl) ?_;rw[Tryz.ntmps141];refine aD fun _ K=>?_;simp(disch:=omega) only[kd,bF,aa,ae];apply K
  refine aE (aD fun _ K=>?_);simp(disch:=omega) only[kd,aa];apply K;refine aS rfl ?_;refine aD fun _ K=>?_;simp(disch:=omega) only[kd,aa];apply K
  refine aI ⟨.inr rfl,?_⟩;refine⟨_,eE 4,pX (d:=1000) rfl ?_ rfl⟩;simp(disch:=omega) only[kd,Tryz.results141,zH,zO,yH,yQ,aa]
 have hl:=fE (n:=n);have hl':(aR n).length≠0:=by omega
 rw[show tZ (f4 neg n)= .agg [.p (.raw (.bool neg)),.p (.sl (ls fU (aR n)))] by
  have:decide (0<n)=true:=by simp;omega
  simp[tZ,mU,yo,this]]
 refine aJ Tryz.func141 rfl (by kernel_rfl) ?_;rw[Tryz.ntmps141];refine aD fun _ K=>?_;simp(disch:=omega) only[kd,bF,aa,ae];apply K
 refine aE (aD fun _ K=>?_);simp(disch:=omega) only[kd,aa];apply K;refine aO rfl (aL ?_);show bs _ _ _ _;refine aD fun _ K=>?_;simp(disch:=omega) only[kd,aa,ah];apply K
 (refine aI ⟨.inr rfl,aH rfl ?_ rfl⟩;simp(disch:=omega) only[kd,Tryz.results141,aa])
theorem ta {P:Program} {f:FuncId} {args:List TV} {r:TV} (hc:callable P f=true) (h: ∀(X:Nat->Prop) (w:World) (vs:Array Value),(∀b,X b->b<w.heap.size)->vs.size=args.length->
  (∀(j:Nat) t,args[j]?=some t-> ∃v:Value,vs[j]?=some v/\t.rel (fun _ _=>none) (fun _=>[]) X w v)->Calls P f vs w fun e w'=> ∃v,e= .returned v/\(∀ρ H Y,(∀b,Y b->b<w.heap.size)->r.rel ρ H Y w' v)/\Ext w w'):CallC P f args ⟨[],r⟩:=
 ⟨hc,fun X w vs hX hvs ha=>(h X w vs hX hvs ha).mono fun e w' ⟨v,h1,h2,h3⟩=>⟨v,h1,fun _ _=>none,DU h3 hX,h2 _ _ _ (fun b hb=>by
  rcases hb with hb|⟨a,r,o,c,ho,hr⟩
  ·exact hX b hb
  cases hr)⟩⟩
end Go.Proofs.YtfgeomlagfomgaaGreatDoor
