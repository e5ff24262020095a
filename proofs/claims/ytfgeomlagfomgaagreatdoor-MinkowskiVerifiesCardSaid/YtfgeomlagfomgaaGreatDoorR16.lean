/-
  Part 17 of a proof (walks and plain facts).
-/
import Derived.Test.YtfgeomlagfomgaaGreatDoorR15
import Derived.Lib.SmallJoins
set_option linter.all false
set_option maxRecDepth 100000
set_option maxHeartbeats 64000000
open Nat renaming reduceAdd → aa
open Nat renaming reduceEqDiff → ab
open List renaming replicate → ae
open Nat renaming reduceLeDiff → ah
open List renaming mem_map → ak
open List renaming getElem?_eq_none → aq
open Nat renaming le_trans → ay
namespace Go.Proofs.YtfgeomlagfomgaaGreatDoor
open Go.RowKit
theorem Ll {P:Program} {b:Nat} {ty:TypeId} {c z:Code} {Q:Exit->AS->List PV->Prop} {s S:AS} {cs cs1:List PV} (h1:fi P b ty c (rX (fun s' k=>b8 s' S/\k=cs1) Q) s cs) (h2:fi P b ty z Q S cs1):fi P b ty c (rX (fi P b ty z Q) Q) s cs:=h1.mono fun e s' k h=>by
 cases e with
 |normal=>
  obtain⟨g1,rfl⟩:=h;exact fi.weak g1 h2
 |_=>exact h
def kX (kind:Nat) (L:List Int) (n:Nat):(Nat->Nat->Int)×Nat:=
 if kind%8<4 then po L (gC L 0 6,kD L 0 n) n
 else if kind%8=4 then(upd (jo false n n) 0 0 (jo false n n 0 0+(mi L 0 3:Int)),gF L 0)
 else if kind%8=5 then(upd (jo true n n) (n-1) (n-1) (jo true n n (n-1) (n-1)+(mi L 0 2:Int)),gF L 0)
 else if kind%8=6 then(gC L 0 9,kD L 0 n)
 else(gC L 0 1,kD L 0 n)
open Classical in
noncomputable def mc (kind:Nat) (L:List Int) (n:Nat):Nat->Nat->Int:=if GoodP n (kX kind L n).1 then(kX kind L n).1 else gC L (kX kind L n).2 2
theorem ov (f:FF) (i j:Nat) (v:Int) (a b:Nat):upd f i j v a b=v\/upd f i j v a b=f a b:=by
 by_cases h:a=i/\b=j
 ·obtain⟨rfl,rfl⟩:=h;exact .inl (yT f a b v)
 exact .inr (pm (by omega))
def Bl (f:FF):Prop:= ∀a b,-9<=f a b/\f a b<=9
theorem Bl.i64 {f:FF} (h:Bl f) (a b:Nat):pr (f a b):=by have:=h a b;exact⟨by omega,by omega⟩
theorem Bl.upd {f:FF} (h:Bl f) {i j:Nat} {v:Int} (h1: -9<=v) (h2:v<=9):Bl (Go.Proofs.YtfgeomlagfomgaaGreatDoor.upd f i j v):=fun a b=>by
 rcases ov f i j v a b with e|e
 ·rw[e];exact⟨h1,h2⟩
 rw[e];exact h a b
theorem xV {L:List Int} {a most:Nat} (h1:0<most) (h2:most<=9):Bl (gC L a most):=fun i j=>by
 unfold gC;split
 ·have:=lC (n:=most) L (kD L a i) h1;omega
 omega
theorem Qy (x:Int): -2<=Int.tmod x 3/\Int.tmod x 3<=2:=by
 have h1:=Int.tmod_lt_of_pos x (show(0:Int)<3 by omega);have h2:=Int.lt_tmod_of_pos x (show(0:Int)<3 by omega);omega
theorem IJ {L:List Int} {i:Nat} {s:(Nat->Nat->Int)×Nat} (h:Bl s.1): ∀k,Bl (K5 L i s k).1
 |0=>h
 |k+1=>by
  have:=Qy (L.getD (K5 L i s k).2 0);exact((IJ h k).upd (by omega) (by omega)).upd (by omega) (by omega)
theorem II {L:List Int} {s:(Nat->Nat->Int)×Nat} (h:Bl s.1): ∀i,Bl (po L s i).1
 |0=>h
 |i+1=>IJ (II h i) i
theorem oR (fork:Bool) (n:Nat): ∀i a b,-1<=jo fork n i a b/\jo fork n i a b<=2
 |0,_,_=>by simp[jo]
 |i+1,a,b=>by
  have ih:=oR fork n i;have u: ∀(f:FF) (i j:Nat) (v:Int),(∀a b,-1<=f a b/\f a b<=2)-> -1<=v/\v<=2-> ∀a b,-1<=upd f i j v a b/\upd f i j v a b<=2:=fun f i j v hf hv a b=>by
   rcases ov f i j v a b with e|e
   ·rw[e];exact hv
   rw[e];exact hf a b
  unfold jo;split
  ·exact u _ _ _ _ ih (by omega) a b
  exact u _ _ _ _ (u _ _ _ _ (u _ _ _ _ ih (by omega)) (by omega)) (by omega) a b
theorem Ew (kind:Nat) (L:List Int) (n:Nat):Bl (kX kind L n).1:=by
 have b3:=lC (n:=3) L 0 (by omega);have b2:=lC (n:=2) L 0 (by omega);have c1:=oR false n n 0 0;have c2:=oR true n n (n-1) (n-1);unfold kX;split
 ·exact II (xV (by omega) (by omega)) n
 split
 ·exact Bl.upd (fun a b=>by have:=oR false n n a b;omega) (by omega) (by omega)
 split
 ·exact Bl.upd (fun a b=>by have:=oR true n n a b;omega) (by omega) (by omega)
 split
 ·exact xV (by omega) (by omega)
 exact xV (by omega) (by omega)
theorem MB (kind:Nat) (L:List Int) (n:Nat):(kX kind L n).2<=L.length:=by
 unfold kX;split
 ·exact Ce (qH (by omega) n) n
 split
 ·exact nQ (by omega)
 split
 ·exact nQ (by omega)
 split
 ·exact qH (by omega) n
 exact qH (by omega) n
abbrev tL (dim kind:Nat) (L B:List Int):TV:= .agg [.p (.raw (.int .u8 (dim:Int))),.p (.raw (.int .u8 (kind:Int))),.p (.sl (ls f8 L)),.p (.sl (ls f8 B))]
theorem N8 (dim kind:Nat) (L B:List Int) (most n:Nat) (hL:I8 L) (hdim:dim<=255) (hkind:kind<=255) (hm1:1<=most) (hm8:most<=8) (hn:n=1+dim%most):
  CallC Tryz.prog 40 [tL dim kind L B,.raw (.int .i64 (most:Int))] ⟨[],slI (mat n n (mc kind L n))⟩:=by
 have hn1:1<=n:=by omega
 have hn8:n<=8:=by have:=Nat.mod_lt dim (show 0<most by omega);omega
 have e1:Int.tmod (dim:Int) (most:Int)=((dim%most:Nat):Int):=(Int.ofNat_tmod dim most).symm;have e2:Int.tmod (kind:Int) 8=((kind%8:Nat):Int):=(Int.ofNat_tmod kind 8).symm;have e3:1+((dim%most:Nat):Int)=(n:Int):=by omega
 refine aI Tryz.func40 rfl (by kernel_rfl) ?_;rw[Tryz.ntmps40];refine aC fun _ K=>?_;simp(disch:=omega) only[kd,tL,aa,ae];apply K
 refine aC fun _ K=>?_;simp(disch:=omega) only[kd,aa,ah,ab];apply K
 refine He 11 (cs:=GB L 0) rfl fun b=>?_
 refine fi.weak (aE (tm:=(jk::rN most::.one (.ptr 2 0 0 0)::jk::jk::dE b::j16 (j16 (j16 (j16 (j4 ([]))))))) (l:=[(2,[⟨32,4,[[.p (.raw (.int .u8 (dim:Int))),.p (.raw (.int .u8 (kind:Int))),.p (.sl (ls f8 L)),.p (.sl (ls f8 B))]]⟩])]) ⟨rfl,trivial⟩ (by simp[wk,un,kQ])) ?_;refine aZ fun _ K=>?_;simp(disch:=omega) only[kd,aa,dE,aO,e1,e3];apply K
 refine aZ fun _ K=>?_;simp only[kd];apply K
 refine df (aZ fun _ K=>?_);simp(disch:=omega) only[kd,aa,e2];apply K;have hraw:=Ew kind L n;have hple:=MB kind L n;refine Ll (S:=⟨(j4 (jk::dE b::rN n::slI (mat n n (kX kind L n).1)::j16 (j16 (j16 (j16 (jk::jk::[])))))),Hm []⟩) (cs1:=GB L (kX kind L n).2) ?_ ?_
 ·have hk8:=Nat.mod_lt kind (show 0<8 by omega);have hG:kind%8<4->kX kind L n=po L (gC L 0 6,kD L 0 n) n:=fun h=>by unfold kX;rw[if_pos h]
  have cg:=Fz b L 0 n hL (by omega) hn8;have cha:=DC n false hn8;have chb:=DC n true hn8;have cb3:=xv b L 0 3 hL (by omega) (by omega) (by omega);have cb2:=xv b L 0 2 hL (by omega) (by omega) (by omega);have cd9:=lH b L 0 n 9 hL (by omega) hn8 (by omega) (by omega);have cd1:=lH b L 0 n 1 hL (by omega) hn8 (by omega) (by omega);rw[show((3:Nat):Int)=3 from rfl]at cb3;rw[show((2:Nat):Int)=2 from rfl]at cb2;rw[show((9:Nat):Int)=9 from rfl]at cd9;rw[show((1:Nat):Int)=1 from rfl]at cd1;have q3:=lC (n:=3) L 0 (by omega);have q2:=lC (n:=2) L 0 (by omega);have r1:=oR false n n 0 0;have r2:=oR true n n (n-1) (n-1);have x0:((n:Int)-1).toNat=n-1:=by omega
  have x1:=bK (n:=n) (i:=0) 35 n (by omega);have x2:=bS (n:=n) n (jo false n n) (i:=0) (by omega);have x3:=aR (m:=n) (jo false n n 0) (j:=0) (by omega);have y1:=bK (n:=n) (i:=n-1) 48 n (by omega);have y2:=bS (n:=n) n (jo true n n) (i:=n-1) (by omega);have y3:=aR (m:=n) (jo true n n (n-1)) (j:=n-1) (by omega);have hcase:kind%8=0\/kind%8=1\/kind%8=2\/kind%8=3\/kind%8=4\/kind%8=5\/kind%8=6\/kind%8=7:=by omega
  rcases hcase with hkk|hkk|hkk|hkk|hkk|hkk|hkk|hkk
  ·have hk:kind%8=0:=by omega
   rw[hk,show((0:Nat):Int)=0 from rfl];refine dQ ?_;refine df (aZ fun _ K=>?_);simp(disch:=omega) only[kd];apply K;refine ic rfl (kG ?_);show fi _ _ _ _ _ _ _;refine ic rfl ?_;refine ig 2 cg [] [] (by kernel_rfl) (by rfl) (by rfl) fun _ K=>?_;simp only[kd,dE,aa,ab];apply K
   rw[hG (by omega)];refine⟨(aE (tm:=(j4 (jk::dE b::rN n::.one (.sl 31 0 0 n)::j16 (j16 (j16 (j16 (jk::jk::[]))))))) (l:=[(31,mxI 31 n n ((po L (gC L 0 6,kD L 0 n) n).1))]) ⟨bZ 0 31 n n _,trivial⟩ (by simp[wk])).trans ((bC 31 (bU rfl)).trans (aE (tm:=(j4 (jk::dE b::rN n::slI (mat n n ((po L (gC L 0 6,kD L 0 n) n).1))::j16 (j16 (j16 (j16 (jk::jk::[]))))))) (l:=[]) trivial (by
    simp[wk];exact⟨rfl,rfl,(gD (H:=Hm [(31,mxI 31 n n ((po L (gC L 0 6,kD L 0 n) n).1))]) (d:=31) (n:=n) (c:=n) (f:=(po L (gC L 0 6,kD L 0 n) n).1) rfl).symm⟩))),rfl⟩
  ·have hk:kind%8=1:=by omega
   rw[hk,show((1:Nat):Int)=1 from rfl];refine dQ ?_;refine df (aZ fun _ K=>?_);simp(disch:=omega) only[kd];apply K;refine dm rfl ?_;refine aZ fun _ K=>?_;simp(disch:=omega) only[kd];apply K
   refine ic rfl (kG ?_);show fi _ _ _ _ _ _ _;refine ic rfl ?_;refine ig 2 cg [] [] (by kernel_rfl) (by rfl) (by rfl) fun _ K=>?_;simp only[kd,dE,aa,ab];apply K
   rw[hG (by omega)];refine⟨(aE (tm:=(j4 (jk::dE b::rN n::.one (.sl 31 0 0 n)::j16 (j16 (j16 (j16 (jk::jk::[]))))))) (l:=[(31,mxI 31 n n ((po L (gC L 0 6,kD L 0 n) n).1))]) ⟨bZ 0 31 n n _,trivial⟩ (by simp[wk])).trans ((bC 31 (bU rfl)).trans (aE (tm:=(j4 (jk::dE b::rN n::slI (mat n n ((po L (gC L 0 6,kD L 0 n) n).1))::j16 (j16 (j16 (j16 (jk::jk::[]))))))) (l:=[]) trivial (by
    simp[wk];exact⟨rfl,rfl,(gD (H:=Hm [(31,mxI 31 n n ((po L (gC L 0 6,kD L 0 n) n).1))]) (d:=31) (n:=n) (c:=n) (f:=(po L (gC L 0 6,kD L 0 n) n).1) rfl).symm⟩))),rfl⟩
  ·have hk:kind%8=2:=by omega
   rw[hk,show((2:Nat):Int)=2 from rfl];refine dQ ?_;refine df (aZ fun _ K=>?_);simp(disch:=omega) only[kd];apply K;refine dm rfl ?_;refine aZ fun _ K=>?_;simp(disch:=omega) only[kd];apply K
   refine dm rfl ?_;refine aZ fun _ K=>?_;simp(disch:=omega) only[kd];apply K
   refine ic rfl (kG ?_);show fi _ _ _ _ _ _ _;refine ic rfl ?_;refine ig 2 cg [] [] (by kernel_rfl) (by rfl) (by rfl) fun _ K=>?_;simp only[kd,dE,aa,ab];apply K
   rw[hG (by omega)];refine⟨(aE (tm:=(j4 (jk::dE b::rN n::.one (.sl 31 0 0 n)::j16 (j16 (j16 (j16 (jk::jk::[]))))))) (l:=[(31,mxI 31 n n ((po L (gC L 0 6,kD L 0 n) n).1))]) ⟨bZ 0 31 n n _,trivial⟩ (by simp[wk])).trans ((bC 31 (bU rfl)).trans (aE (tm:=(j4 (jk::dE b::rN n::slI (mat n n ((po L (gC L 0 6,kD L 0 n) n).1))::j16 (j16 (j16 (j16 (jk::jk::[]))))))) (l:=[]) trivial (by
    simp[wk];exact⟨rfl,rfl,(gD (H:=Hm [(31,mxI 31 n n ((po L (gC L 0 6,kD L 0 n) n).1))]) (d:=31) (n:=n) (c:=n) (f:=(po L (gC L 0 6,kD L 0 n) n).1) rfl).symm⟩))),rfl⟩
  ·have hk:kind%8=3:=by omega
   rw[hk,show((3:Nat):Int)=3 from rfl];refine dQ ?_;refine df (aZ fun _ K=>?_);simp(disch:=omega) only[kd];apply K;refine dm rfl ?_;refine aZ fun _ K=>?_;simp(disch:=omega) only[kd];apply K
   refine dm rfl ?_;refine aZ fun _ K=>?_;simp(disch:=omega) only[kd];apply K
   refine dm rfl ?_;refine fB fun _ K=>?_;simp(disch:=omega) only[kd];apply K
   show fi _ _ _ _ _ _ _;refine ic rfl ?_;refine ig 2 cg [] [] (by kernel_rfl) (by rfl) (by rfl) fun _ K=>?_;simp only[kd,dE,aa,ab];apply K
   rw[hG (by omega)];refine⟨(aE (tm:=(j4 (jk::dE b::rN n::.one (.sl 31 0 0 n)::j16 (j16 (j16 (j16 (jk::jk::[]))))))) (l:=[(31,mxI 31 n n ((po L (gC L 0 6,kD L 0 n) n).1))]) ⟨bZ 0 31 n n _,trivial⟩ (by simp[wk])).trans ((bC 31 (bU rfl)).trans (aE (tm:=(j4 (jk::dE b::rN n::slI (mat n n ((po L (gC L 0 6,kD L 0 n) n).1))::j16 (j16 (j16 (j16 (jk::jk::[]))))))) (l:=[]) trivial (by
    simp[wk];exact⟨rfl,rfl,(gD (H:=Hm [(31,mxI 31 n n ((po L (gC L 0 6,kD L 0 n) n).1))]) (d:=31) (n:=n) (c:=n) (f:=(po L (gC L 0 6,kD L 0 n) n).1) rfl).symm⟩))),rfl⟩
  ·have hk:kind%8=4:=by omega
   rw[hk,show((4:Nat):Int)=4 from rfl];refine dQ ?_;refine df (aZ fun _ K=>?_);simp(disch:=omega) only[kd];apply K;refine dm rfl ?_;refine aZ fun _ K=>?_;simp(disch:=omega) only[kd];apply K
   refine dm rfl ?_;refine aZ fun _ K=>?_;simp(disch:=omega) only[kd];apply K
   refine dm rfl ?_;refine fB fun _ K=>?_;simp(disch:=omega) only[kd];apply K
   show fi _ _ _ _ _ _ _;refine dm rfl ?_;refine aZ fun _ K=>?_;simp(disch:=omega) only[kd];apply K
   refine ic rfl ?_;refine mv [⟨1,_,_,_,cha⟩] [] fun _ K=>?_;simp only[kd,aa,ab];apply K
   refine fi.weak (aE (tm:=(j4 (jk::dE b::rN n::.one (.sl 35 0 0 n)::j16 (j16 (j16 (j16 (jk::jk::[]))))))) (l:=[(35,mxI 35 n n (jo false n n))]) ⟨bZ 0 35 n n _,trivial⟩ (by simp[wk])) ?_;refine lB aW 6 cb3 [] [] (by kernel_rfl) (by kernel_rfl) (by rfl) (by rfl) fun _ K=>?_;simp(disch:=omega) only[kd,dE,aa,Int.reduceToNat,x1,x2,x3,aO,da];apply K
   rw[show kX kind L n=(upd (jo false n n) 0 0 (jo false n n 0 0+(mi L 0 3:Int)),gF L 0) by unfold kX;rw[if_neg (by omega),if_pos hk]];refine⟨(aE (tm:=(j4 (jk::dE b::rN n::.one (.sl 35 0 0 n)::j16 (j16 (j16 (j16 (jk::jk::[]))))))) (l:=[(35,mxI 35 n n (upd (jo false n n) 0 0 (jo false n n 0 0+(mi L 0 3:Int))))]) ⟨rfl,trivial⟩ (by simp[wk])).trans ((bC 35 (bU rfl)).trans (aE (tm:=(j4 (jk::dE b::rN n::slI (mat n n (upd (jo false n n) 0 0 (jo false n n 0 0+(mi L 0 3:Int))))::j16 (j16 (j16 (j16 (jk::jk::[]))))))) (l:=[]) trivial (by
    simp[wk];exact⟨rfl,rfl,(gD (H:=Hm [(35,mxI 35 n n (upd (jo false n n) 0 0 (jo false n n 0 0+(mi L 0 3:Int))))]) (d:=35) (n:=n) (c:=n) (f:=upd (jo false n n) 0 0 (jo false n n 0 0+(mi L 0 3:Int))) rfl).symm⟩))),rfl⟩
  ·have hk:kind%8=5:=by omega
   rw[hk,show((5:Nat):Int)=5 from rfl];refine dQ ?_;refine df (aZ fun _ K=>?_);simp(disch:=omega) only[kd];apply K;refine dm rfl ?_;refine aZ fun _ K=>?_;simp(disch:=omega) only[kd];apply K
   refine dm rfl ?_;refine aZ fun _ K=>?_;simp(disch:=omega) only[kd];apply K
   refine dm rfl ?_;refine fB fun _ K=>?_;simp(disch:=omega) only[kd];apply K
   show fi _ _ _ _ _ _ _;refine dm rfl ?_;refine aZ fun _ K=>?_;simp(disch:=omega) only[kd];apply K
   refine dm rfl ?_;refine aZ fun _ K=>?_;simp(disch:=omega) only[kd];apply K
   refine ic rfl ?_;refine mv [⟨1,_,_,_,chb⟩] [] fun _ K=>?_;simp only[kd,aa,ab];apply K
   refine fi.weak (aE (tm:=(j4 (jk::dE b::rN n::.one (.sl 48 0 0 n)::j16 (j16 (j16 (j16 (jk::jk::[]))))))) (l:=[(48,mxI 48 n n (jo true n n))]) ⟨bZ 0 48 n n _,trivial⟩ (by simp[wk])) ?_;refine lB aW 10 cb2 [] [] (by kernel_rfl) (by kernel_rfl) (by rfl) (by rfl) fun _ K=>?_;simp(disch:=omega) only[kd,dE,aa,aO,x0,y1,y2,y3,da];apply K
   rw[show kX kind L n=(upd (jo true n n) (n-1) (n-1) (jo true n n (n-1) (n-1)+(mi L 0 2:Int)),gF L 0) by unfold kX;rw[if_neg (by omega),if_neg (by omega),if_pos hk]];refine⟨(aE (tm:=(j4 (jk::dE b::rN n::.one (.sl 48 0 0 n)::j16 (j16 (j16 (j16 (jk::jk::[]))))))) (l:=[(48,mxI 48 n n (upd (jo true n n) (n-1) (n-1) (jo true n n (n-1) (n-1)+(mi L 0 2:Int))))]) ⟨rfl,trivial⟩ (by simp[wk])).trans ((bC 48 (bU rfl)).trans (aE (tm:=(j4 (jk::dE b::rN n::slI (mat n n (upd (jo true n n) (n-1) (n-1) (jo true n n (n-1) (n-1)+(mi L 0 2:Int))))::j16 (j16 (j16 (j16 (jk::jk::[]))))))) (l:=[]) trivial (by
    simp[wk];exact⟨rfl,rfl,(gD (H:=Hm [(48,mxI 48 n n (upd (jo true n n) (n-1) (n-1) (jo true n n (n-1) (n-1)+(mi L 0 2:Int))))]) (d:=48) (n:=n) (c:=n) (f:=upd (jo true n n) (n-1) (n-1) (jo true n n (n-1) (n-1)+(mi L 0 2:Int))) rfl).symm⟩))),rfl⟩
  ·have hk:kind%8=6:=by omega
   rw[hk,show((6:Nat):Int)=6 from rfl];refine dQ ?_;refine df (aZ fun _ K=>?_);simp(disch:=omega) only[kd];apply K;refine dm rfl ?_;refine aZ fun _ K=>?_;simp(disch:=omega) only[kd];apply K
   refine dm rfl ?_;refine aZ fun _ K=>?_;simp(disch:=omega) only[kd];apply K
   refine dm rfl ?_;refine fB fun _ K=>?_;simp(disch:=omega) only[kd];apply K
   show fi _ _ _ _ _ _ _;refine dm rfl ?_;refine aZ fun _ K=>?_;simp(disch:=omega) only[kd];apply K
   refine dm rfl ?_;refine aZ fun _ K=>?_;simp(disch:=omega) only[kd];apply K
   refine dm rfl ?_;refine aZ fun _ K=>?_;simp(disch:=omega) only[kd];apply K
   refine ic rfl ?_;refine ig 2 cd9 [] [] (by kernel_rfl) (by rfl) (by rfl) fun _ K=>?_;simp only[kd,dE,aa,ab];apply K
   rw[show kX kind L n=(gC L 0 9,kD L 0 n) by unfold kX;rw[if_neg (by omega),if_neg (by omega),if_neg (by omega),if_pos hk]];refine⟨(aE (tm:=(j4 (jk::dE b::rN n::.one (.sl 66 0 0 n)::j16 (j16 (j16 (j16 (jk::jk::[]))))))) (l:=[(66,mxI 66 n n (gC L 0 9))]) ⟨bZ 0 66 n n _,trivial⟩ (by simp[wk])).trans ((bC 66 (bU rfl)).trans (aE (tm:=(j4 (jk::dE b::rN n::slI (mat n n (gC L 0 9))::j16 (j16 (j16 (j16 (jk::jk::[]))))))) (l:=[]) trivial (by
    simp[wk];exact⟨rfl,rfl,(gD (H:=Hm [(66,mxI 66 n n (gC L 0 9))]) (d:=66) (n:=n) (c:=n) (f:=gC L 0 9) rfl).symm⟩))),rfl⟩
  have hk:kind%8=7:=by omega
  rw[hk,show((7:Nat):Int)=7 from rfl];refine dQ ?_;refine df (aZ fun _ K=>?_);simp(disch:=omega) only[kd];apply K;refine dm rfl ?_;refine aZ fun _ K=>?_;simp(disch:=omega) only[kd];apply K
  refine dm rfl ?_;refine aZ fun _ K=>?_;simp(disch:=omega) only[kd];apply K
  refine dm rfl ?_;refine fB fun _ K=>?_;simp(disch:=omega) only[kd];apply K
  show fi _ _ _ _ _ _ _;refine dm rfl ?_;refine aZ fun _ K=>?_;simp(disch:=omega) only[kd];apply K
  refine dm rfl ?_;refine aZ fun _ K=>?_;simp(disch:=omega) only[kd];apply K
  refine dm rfl ?_;refine aZ fun _ K=>?_;simp(disch:=omega) only[kd];apply K
  refine dm rfl ?_;refine ig 2 cd1 [] [] (by kernel_rfl) (by rfl) (by rfl) fun _ K=>?_;simp only[kd,dE,aa,ab];apply K
  rw[show kX kind L n=(gC L 0 1,kD L 0 n) by unfold kX;rw[if_neg (by omega),if_neg (by omega),if_neg (by omega),if_neg (by omega)]];refine⟨(aE (tm:=(j4 (jk::dE b::rN n::.one (.sl 23 0 0 n)::j16 (j16 (j16 (j16 (jk::jk::[]))))))) (l:=[(23,mxI 23 n n (gC L 0 1))]) ⟨bZ 0 23 n n _,trivial⟩ (by simp[wk])).trans ((bC 23 (bU rfl)).trans (aE (tm:=(j4 (jk::dE b::rN n::slI (mat n n (gC L 0 1))::j16 (j16 (j16 (j16 (jk::jk::[]))))))) (l:=[]) trivial (by
   simp[wk];exact⟨rfl,rfl,(gD (H:=Hm [(23,mxI 23 n n (gC L 0 1))]) (d:=23) (n:=n) (c:=n) (f:=gC L 0 1) rfl).symm⟩))),rfl⟩
 generalize hrw:kX kind L n=rg at*
 obtain⟨f,p⟩:=rg;simp only at hraw hple⊢;have e5:mc kind L n=(open Classical in if GoodP n f then f else gC L p 2):=by unfold mc;rw[hrw]
 by_cases hg:GoodP n f
 ·rw[if_pos hg]at e5;rw[e5];have c1:=ID n f hn1 hn8 hraw.i64 true (by simp[hg]);refine df (mv [⟨1,_,_,_,c1⟩] [] fun _ K=>?_);simp only[kd,slI,aa,dE];apply K;refine dm rfl (kG ?_);show fi _ _ _ _ _ _ _;refine aZ fun _ K=>?_;simp only[kd];apply K
  refine nE ⟨.inr rfl,aG rfl ?_ rfl⟩;simp(disch:=omega) only[kd,Tryz.results40,slI]
 rw[if_neg hg]at e5;rw[e5];have c1:=ID n f hn1 hn8 hraw.i64 false (by simp[hg]);have c2:=lH b L p n 2 hL hple hn8 (by omega) (by omega);rw[show((2:Nat):Int)=2 from rfl]at c2;refine df (mv [⟨1,_,_,_,c1⟩] [] fun _ K=>?_);simp only[kd,slI,aa,dE];apply K;refine ic rfl ?_;refine qG 2 c2 [] [] (by kernel_rfl) (by rfl) (by rfl) fun _ K=>?_;simp only[kd,dE,aa];apply K
 refine fi.weak (aE (tm:=(j4 (.one (.sl 72 0 0 n)::j16 (j16 (j16 (j16 (j4 (jk::[])))))))) (l:=[(72,mxI 72 n n (gC L p 2))]) ⟨bZ 0 72 n n _,trivial⟩ (by simp[wk])) ?_;refine fi.weak ((bC 72 (bU rfl)).trans (aE (tm:=(j4 (slI (mat n n (gC L p 2))::j16 (j16 (j16 (j16 (j4 (jk::[])))))))) (l:=[]) trivial (by
  simp[wk];exact(gD (H:=Hm [(72,mxI 72 n n (gC L p 2))]) (d:=72) (n:=n) (c:=n) (f:=gC L p 2) rfl).symm))) ?_
 refine nE ⟨.inr rfl,aG rfl ?_ rfl⟩;simp(disch:=omega) only[kd,Tryz.results40,slI]
theorem s6 (n c:Nat) (f:FF) (hn1:1<=n) (hn:n<=16) (hc1:1<=c) (hc:c<=16) (hf: ∀i j:Nat,i<n->j<c->pr (f i j)):
  CallC Tryz.prog 44 [slM (mat n c f)] ⟨mxI 0 n c f,kP n true⟩:=by
 have hS:=ny (mat n c f);rw[fW (iy f hn1 hn hc1 hc),aU,fb f hn1]at hS;refine aI Tryz.func44 rfl (by kernel_rfl) ?_;rw[Tryz.ntmps44];refine aC fun _ K=>?_;simp only[kd,slM,ae];apply K
 refine aF [⟨1,_,_,_,hS⟩] [] fun _ K=>?_;simp only[kd,slM,aa];apply K
 refine aD (aC fun _ K=>?_);simp only[kd];apply K;refine aN rfl (aK ?_);show bf _ _ _ _;refine aC fun _ K=>?_;simp(disch:=omega) only[kd,aa];apply K
 refine aD (aC fun _ K=>?_);simp only[kd,aa];apply K;refine aT (G:=jP n) (fun g=>⟨(slM (mat n c f)::j4 (.raw (.int .i64 (c:Int))::jk::.one (.sl 21 0 0 n)::j4 (j4 (j4 (jk::jk::jk::rN n::rN g.i::j16 (j16 (j4 (jk::jk::[])))))))),Hm [(21,kI 21 n c g.i (part f g.i 0))]⟩) (fun g=>n-g.i) ⟨0,by omega⟩ ?_ ?_
 ·refine aE ⟨?_,trivial⟩ ?_
  ·show[_]=_;simp[fO,mat]
  simp[wk]
 rintro⟨i,hi⟩;simp only;by_cases hm:i<n
 ·have hr:=bs c f hm;have k1:=oV (i:=i) (n:=n) 21 c hm;have k2:=i4 (i:=i) (n:=n) 21 c hi;have k3:=aU i c (part f i 0);have k4:=lL (i:=i) (n:=n) (c:=c) 21 (part f i 0) hm (fun j hj=>by unfold part;rw[if_neg (by omega)]);have k5:=qW (i:=i+1) (k:=i) (n:=n) 21 c (by omega);have k6:=i4 (i:=i+1) (n:=n) 21 c (by omega);have k7:=bS (n:=i+1) c (part f i 0) (i:=i) (by omega);refine aC fun _ K=>?_;simp(disch:=omega) only[kd,slM];apply K
  refine bu rfl ?_;refine aD (aJ ?_);refine aC fun _ K=>?_;simp only[kd];apply K
  refine aC fun _ K=>?_;simp(disch:=omega) only[kd,aa,ab,k1,ah,List.length_replicate,List.all_replicate,k3,Nat.reduceBEq];apply K
  refine bf.weak (aE (tm:=(slM (mat n c f)::j4 (.raw (.int .i64 (c:Int))::jk::.one (.sl 21 0 0 n)::rN i::j4 (j4 (j4 (jk::jk::rN n::rN i::j16 (j16 (j4 (jk::jk::[]))))))))) (l:=[(21,kI 21 n c (i+1) (part f i 0))]) ⟨?_,trivial⟩ (by simp[wk])) ?_
  ·first|exact k4|rfl
  refine aC fun _ K=>?_;simp(disch:=omega) only[kd,aa,slM,k5];apply K
  refine aT (G:=jP c) (fun g=>⟨(slM (mat n c f)::j4 (.raw (.int .i64 (c:Int))::jk::.one (.sl 21 0 0 n)::rN i::j4 (j4 (j4 (jk::jk::rN n::rN i::j4 (j4 (jk::jk::jk::rN c::rN g.i::j16 (j4 (j4 (jk::[])))))))))),Hm [(21,kI 21 n c (i+1) (part f i g.i))]⟩) (fun g=>c-g.i) ⟨0,by omega⟩ ?_ ?_
  ·refine aE ⟨rfl,trivial⟩ ?_;simp[wk]
  rintro⟨j,hj⟩;simp only;by_cases hm3:j<c
  ·have hjr:=aR (f i) hm3;have hz:=hf i j hm hm3;have cI:=Ld (f i j) (hz.sz (by omega));rw[iY,if_pos (show -9223372036854775808<=f i j/\f i j<=9223372036854775807 from hz)]at cI;have q7:=bS (n:=i+1) c (part f i j) (i:=i) (by omega);have q8:=aR (part f i j i) hm3;refine aC fun _ K=>?_;simp(disch:=omega) only[kd,slM];apply K
   refine bu rfl ?_;refine aD (aJ ?_);refine aC fun _ K=>?_;simp only[kd];apply K
   refine aF [⟨7,_,_,_,cI⟩] [] fun _ K=>?_;simp(disch:=omega) only[kd,tZ,aa,hr,fR,hjr,fZ];apply K
   refine aD (aC fun _ K=>?_);simp only[kd];apply K;refine aN rfl (aK ?_);show bf _ _ _ _;refine aL fun _ K=>?_;simp(disch:=omega) only[kd,aa,k5,q7,q8,da];apply K
   show bf _ _ _ _;refine aL fun _ K=>?_;simp(disch:=omega) only[kd,aO];apply K
   refine⟨⟨j+1,by omega⟩,by simp only;omega,aE ⟨?_,trivial⟩ ?_⟩
   ·show _::_=_::_;rw[cj fun a b _ _=>jt f i j a b]
   simp[wk]
  have hjc:j=c:=by omega
  subst hjc;refine aC fun _ K=>?_;simp(disch:=omega) only[kd,slM];apply K
  refine bD rfl ?_;show bf _ _ _ _;refine aL fun _ K=>?_;simp(disch:=omega) only[kd,aO];apply K
  refine⟨⟨i+1,by omega⟩,by simp only;omega,aE ⟨?_,trivial⟩ ?_⟩
  ·show _::_=_::_;rw[cj fun a b _ hb=>kU f i a b hb]
  simp[wk]
 have hin:i=n:=by omega
 subst hin;refine aC fun _ K=>?_;simp(disch:=omega) only[kd,slM];apply K
 refine bD rfl ?_;show bf _ _ _ _;have e:kI 21 i c i (part f i 0)=mxI 21 i c f:=by
  rw[lK];show _::_=_::_;rw[cj fun a b ha _=>jG f a b ha]
 rw[e];refine aC fun _ K=>?_;simp only[kd,aa];apply K
 refine aH ⟨.inr rfl,CJ (d:=21) rfl ?_ (by decide)⟩;simp(disch:=omega) only[kd,Tryz.results44]
theorem Hb (n c:Nat) (f:FF) (hn1:1<=n) (hn:n<=16) (hc1:1<=c) (hc:c<=16) (hf: ∀i j:Nat,i<n->j<c->pr (f i j)):
  CallC Tryz.prog 44 [slM (mat n c f)] ⟨[],.tup [(false,[.p (.sl (ls (fR fI) (mat n c f)))]),(false,[.p (.raw (.bool true))])]⟩:=
 (s6 n c f hn1 hn hc1 hc hf).fzT (by simp[isPure])
structure QN (N B Z n:Nat) (f0 h T:FF) where
 f:Nat->Nat->Int
 t:Nat->Nat->Int
 s:Nat
 adds:Nat
 inv:RedI N B Z n f0 f t s adds
 rch:Rch n f t h T
theorem Cb (a b:Nat):Sz (idF a b) 1:=by unfold idF;split<;>exact ns (by decide) (by omega)
theorem MD {N B S Z n:Nat} {f0 f t h T:FF} (kb:Bi N B S Z) (hn1:1<=n) (hn:n<=N) (hd:dk f0 n<=10000) (hr:Rch n f t h T): ∀s adds,RedI N B Z n f0 f t s adds->RedR h n:=by
 induction hr with
 |done f t hc=>exact fun s adds hI=>hI.red hn1 hd hc
 |step f t h T c hc _ ih=>
  intro s adds hI;cases c with
  |add i j=>exact ih _ _ (hI.add kb hn hc).1
  |swp m=>exact ih _ _ (hI.swap kb hn hc)
theorem FS {N B S Z n:Nat} {f0 f t:FF} {s adds:Nat} (kb:Bi N B S Z) (h:RedI N B Z n f0 f t s adds) (hn:n<=N) {c:Ch} (hc:scanF f n=some c): ∀a b,a<n->b<n->Sz (NM f c a b) 500:=fun a b ha hb=>by
 obtain⟨hF,hi⟩:=iu hc;cases c with
 |add i j=>
  have hi:i<n:=hi;show Sz (Hr i j (cF f i j) a b) 500;rcases ov idF j i (cF f i j) a b with e|e
  ·unfold Hr;rw[e];exact(h.szc kb hn hi hF.1).mono (by have:=kb.z4;omega)
  unfold Hr;rw[e];exact(Cb a b).mono (by omega)
 |swp m=>exact(Cb _ b).mono (by omega)
theorem Oz {n:Nat} (f:FF) {c:Ch} (hc:scanF f n=some c):mat n n (cngF n f (NM f c))=mat n n (Q3 f c):=by
 obtain⟨hF,hi⟩:=iu hc;refine dR fun a b ha hb=>?_
 cases c with
 |add i j=>exact LB (by have:=hF.1;omega) (by have:i<n:=hi;have:=hF.1;omega) f a b ha hb
 |swp m=>exact OB hi f a b ha hb
structure EV (N B Z n:Nat) (f:FF):Prop where
 good:GoodP n f
 sz: ∀i j,i<n->j<n->Sz (f i j) 400
 st:RedI N B Z n f f idF 0 0
theorem EV.dk {N B S Z n:Nat} {f:FF} (kb:Bi N B S Z) (k:EV N B Z n f) (hn1:1<=n):dk f n<=10000:=by
 obtain⟨hs,hp,hd⟩:=k.good;have:=(uH hp (n-1) (by omega)).2;rw[show n-1+1=n by omega]at this;omega
theorem EV.ex {N B S Z n:Nat} {f:FF} (kb:Bi N B S Z) (k:EV N B Z n f) (hn1:1<=n) (hn:n<=N): ∃h T,RedR h n/\Rch n f idF h T:=by
 obtain⟨h,T,hr⟩:=pc (f0:=f) kb hn _ f idF 0 0 (Nat.le_refl _) k.st;exact⟨h,T,MD kb hn1 hn (k.dk kb hn1) hr 0 0 k.st,hr⟩
theorem NV {n:Nat} {f:FF} (hn1:1<=n) (hn:n<=8) (hb:Bl f) (hg:GoodP n f):EV 8 bB 41 n f:=
 ⟨hg,fun i j _ _=>(hb.i64 i j).sz (by omega),RedI.start hn1 hn hg.1 hg.2.1 (fun a b=>by have:=hb a b;omega) (fun a b _ _=>Cb a b)⟩
theorem EW {N B S Z:Nat} (kb:Bi N B S Z) (n:Nat) (f h T:FF) (hn1:1<=n) (hn:n<=N) (k:EV N B Z n f) (hred:RedR h n) (hr:Rch n f idF h T):
  CallC Tryz.prog 25 [slM (mat n n f)] ⟨mxI 0 n n h,.tup [(false,[.sl 0 0 0 n]),(false,[.p (.sl (ls (fR fZ) (mat n n T)))]),(false,[.p (.raw (.int .i64 0))])]⟩:=by
 have hn8:n<=8:=ay hn kb.n8;have hst:=k.st;obtain⟨hs,hp,hd⟩:=k.good;have hsz: ∀i j,i<n->j<n->Sz (f i j) 1024:=fun i j hi hj=>(k.sz i j hi hj).mono (by omega)
 obtain⟨e,he,c1⟩:=lk n n f hn1 (by omega) hn1 (by omega) hsz;have he0:e=0:=he.2 ⟨rfl,hn8,hs,hp⟩;subst he0;have c2:=AW n f hn1 (by omega) hsz;rw[decide_eq_true hd]at c2;have c3:=G4 n n f (by omega) hn1 (by omega) (fun i j hi hj=>(hsz i j hi hj).mono (by omega));have c4:=sV n hn1 (by omega);have hml:=aU n n f;refine aI Tryz.func25 rfl (by kernel_rfl) ?_;rw[Tryz.ntmps25];refine aC fun _ K=>?_;simp only[kd,aa,slM,ae];apply K
 refine aD (aF [⟨1,_,_,_,c1⟩] [] fun _ K=>?_);simp only[kd,slM,aa];apply K;refine aC fun _ K=>?_;simp(disch:=omega) only[kd];apply K
 refine aN rfl (aK ?_);show bf _ _ _ _;refine aD (aF [⟨1,_,_,_,c2⟩] [] fun _ K=>?_);simp only[kd,slM,aa];apply K;refine aN rfl (aK ?_);show bf _ _ _ _;refine aF [⟨1,_,_,_,c3⟩] [] fun _ K=>?_;simp only[kd,slM,aa];apply K
 refine aF [⟨2,_,_,_,c4⟩] [] fun _ K=>?_;simp only[kd,aa,hml,ab];apply K
 refine aT (G:=QN N B Z n f h T) (fun g=>⟨(j4 (jk::jk::slM (mat n n g.f)::slM (mat n n g.t)::j16 (j16 (j4 (j4 (jk::[])))))),Hm []⟩) (fun g=>NQ S n g.f g.s) ⟨f,idF,0,0,hst,hr⟩ ?_ ?_
 ·refine(aE (tm:=(j4 (jk::jk::.one (.sl 22 0 0 n)::.one (.sl 26 0 0 n)::j16 (j16 (j4 (j4 (jk::[]))))))) (l:=[(22,gK 22 n n f),(26,gK 26 n n idF)]) ⟨gu 0 22 n n _,gu 0 26 n n _,trivial⟩ (by simp[wk])).trans ((bC 22 (jY rfl)).trans ((aE (tm:=(j4 (jk::jk::slM (mat n n f)::.one (.sl 26 0 0 n)::j16 (j16 (j4 (j4 (jk::[]))))))) (l:=[(26,gK 26 n n idF)]) ⟨rfl,trivial⟩ (by
   simp[wk];exact⟨(NO (H:=Hm [(22,gK 22 n n f),(26,gK 26 n n idF)]) (d:=22) (n:=n) (c:=n) (f:=f) rfl).symm,rfl⟩)).trans ((bC 26 (jY rfl)).trans (aE trivial ?_))))
  simp[wk];exact⟨rfl,(NO (H:=Hm [(26,gK 26 n n idF)]) (d:=26) (n:=n) (c:=n) (f:=idF) rfl).symm⟩
 rintro⟨g,t,s,adds,hI,hrc⟩;simp only;have cs:=Pn n g hn1 hn8 hI.dfn.pos (fun i j hi hj=>(hI.szf kb hn hi hj).mono (by omega));cases hc:scanF g n with
 |none=>
  obtain⟨rfl,rfl⟩:g=h/\t=T:=by
   cases hrc with
   |done _ _ _=>exact⟨rfl,rfl⟩
   |step _ _ _ _ c hc' _=>rw[hc]at hc';cases hc'
  have hes:=il hn1 hn8 hred;have ct:=s6 n n g hn1 (by omega) hn1 (by omega) (fun i j hi hj=>by have:=hes i hi j hj;exact⟨by omega,by omega⟩);rw[hc]at cs;refine aJ ?_;refine aF [⟨1,_,_,_,cs⟩] [] fun _ K=>?_;simp only[kd,slM,PM,aa];apply K
  refine aD (aC fun _ K=>?_);simp only[kd];apply K;refine aS rfl ?_;refine aF [⟨1,_,_,_,ct⟩] [] fun _ K=>?_;simp only[kd,slM,kP,aa];apply K
  refine bf.weak (aE (tm:=(j4 (jk::jk::jk::slM (mat n n t)::jk::jk::jk::.one (.sl 38 0 0 n)::j16 (j16 (j4 (jk::[])))))) (l:=[(38,mxI 38 n n g)]) ⟨bZ 0 38 _ _ _,trivial⟩ (by simp[wk])) ?_;refine aC fun _ K=>?_;simp only[kd,aa,slM];apply K
  refine aH ⟨.inr rfl,_,b8.refl _,?_⟩;refine⟨.tup [(false,[.sl 38 0 0 n]),(false,[.p (.sl (ls (fR fZ) (mat n n t)))]),(false,[.p (.raw (.int .i64 0))])],38,?_,qj (by simp[iv,ew]) (by decide),(bZ 38 0 _ _ _).symm,rfl⟩;simp(disch:=omega) only[kd,Tryz.results25]
 |some c=>
  have hrc':Rch n (Q3 g c) (gm n t (NM g c)) h T:=by
   cases hrc with
   |done _ _ hc'=>rw[hc]at hc';cases hc'
   |step _ _ _ _ c' hc' hr'=>
    rw[hc]at hc';injection hc' with hc'
    subst hc';exact hr'
  rw[hc]at cs;have hch:=FS kb hI hn hc;have ha:=hI.adds_le kb hn;have cc:=mo n g (NM g c) hn1 (by omega) (fun i j hi hj=>(hI.szf kb hn hi hj).mono (by omega)) (fun i j hi hj=>(hch i j hi hj).mono (by omega));rw[Oz g hc]at cc;have cp:=nw n n n t (NM g c) hn1 (by omega) hn1 (by omega) hn1 (by omega) (fun i j hi hj=>(hI.szt i j hi hj).mono (ay (Nat.add_le_add_left (Nat.mul_le_mul_left (Z+4) ha) 1) (by have:=kb.sz;omega))) (fun i j hi hj=>(hch i j hi hj).mono (by omega));refine aJ ?_;refine aF [⟨1,_,_,_,cs⟩] [] fun _ K=>?_;simp only[kd,slM,PM,aa];apply K
  refine aD (aC fun _ K=>?_);simp only[kd];apply K;refine aN rfl (aK ?_);show bf _ _ _ _;refine jx [⟨2,_,_,_,cc⟩,⟨5,_,_,_,cp⟩] [] fun _ K=>?_;simp only[kd,slM,aa,Nat.reduceBEq];apply K
  cases c with
  |add i j=>
   refine⟨⟨_,_,s,adds+1,(hI.add kb hn hc).1,hrc'⟩,hI.mu_add kb hn hc,aE trivial ?_⟩;simp[wk];exact⟨rfl,rfl⟩
  |swp m=>
   refine⟨⟨_,_,s+1,adds,hI.swap kb hn hc,hrc'⟩,hI.mu_swap kb hn hc,aE trivial ?_⟩;simp[wk];exact⟨rfl,rfl⟩
theorem xW {f:FF} (h0: ∀a b,a≠b->f a b=0) (h1: ∀a,0<f a a): ∀k,(0<dk f k/\ ∀t,t<k->0<dk f (t+1))/\ ∀a b,k<=a->k<=b->bk f k a b=dk f k*f a b
 |0=>⟨⟨by rw[dx];omega,fun t ht=>by omega⟩,fun a b _ _=>by rw[dF,dx,Int.one_mul]⟩
 |k+1=>by
  obtain⟨⟨p0,p1⟩,p2⟩:=xW h0 h1 k;have e:dk f (k+1)=dk f k*f k k:=by rw[bY,p2 k k (by omega) (by omega)]
  have hpos:0<dk f (k+1):=by rw[e];exact Int.mul_pos p0 (h1 k)
  refine⟨⟨hpos,fun t ht=>?_⟩,fun a b ha hb=>?_⟩
  ·by_cases et:t=k
   ·subst et;exact hpos
   exact p1 t (by omega)
  have s:=sylv f k (fun t ht=>by have:=p1 t ht;omega) a b;rw[p2 a b (by omega) (by omega),p2 a k (by omega) (by omega),h0 a k (by omega),Int.mul_zero,Int.zero_mul,Int.sub_zero]at s;refine Int.eq_of_mul_eq_mul_left (show dk f k≠0 by omega) ?_;rw[s];exact Int.mul_left_comm _ _ _
theorem DP {f:FF} (h0: ∀a b,a≠b->f a b=0) (h1: ∀a,0<f a a) (h2: ∀a,f a a<=2): ∀k,dk f k<=2^k
 |0=>by rw[dx];decide
 |k+1=>by
  obtain⟨⟨p0,_⟩,p2⟩:=xW h0 h1 k;rw[bY,p2 k k (by omega) (by omega),Int.pow_succ];have ih:=DP h0 h1 h2 k;exact Int.mul_le_mul ih (h2 k) (Int.le_of_lt (h1 k)) (Int.le_trans (Int.le_of_lt p0) ih)
theorem Ie (L:List Int) (p n:Nat) (hn1:1<=n) (hn:n<=8):GoodP n (gC L p 2):=by
 have h0: ∀a b,a≠b->gC L p 2 a b=0:=fun a b h=>by unfold gC;rw[if_neg h]
 have h1: ∀a,0<gC L p 2 a a:=fun a=>by unfold gC;rw[if_pos rfl];omega
 have h2: ∀a,gC L p 2 a a<=2:=fun a=>by
  unfold gC;rw[if_pos rfl];have:=lC (n:=2) L (kD L p a) (by omega);omega
 have hpos: ∀k,0<dk (gC L p 2) (k+1):=fun k=>(xW h0 h1 (k+1)).1.1
 have hdet: ∀k,detF (k+1) (gC L p 2)=dk (gC L p 2) (k+1):=fun k=>sk fun t _=>by have:=hpos t;omega
 refine⟨fun a _ b _=>?_,fun k _=>by rw[hdet];exact hpos k,?_⟩
 ·by_cases e:a=b
  ·rw[e]
  rw[h0 a b e,h0 b a (Ne.symm e)]
 have e:=hdet (n-1);rw[show n-1+1=n by omega]at e;rw[e];have h3:=DP h0 h1 h2 n;have h4:(2:Int)^n<=2^8:=by
  have:=Nat.pow_le_pow_right (show 0<2 by omega) hn
  exact_mod_cast this
 have h5:(2:Int)^8=256:=by decide
 omega
theorem tY (kind:Nat) (L:List Int) (n:Nat) (hn1:1<=n) (hn:n<=8):GoodP n (mc kind L n)/\Bl (mc kind L n):=by
 unfold mc;split
 ·rename_i h;exact⟨h,Ew kind L n⟩
 exact⟨Ie L _ n hn1 hn,xV (by omega) (by omega)⟩
theorem Dh (dim kind:Nat) (L B:List Int) (most n:Nat) (h T:FF) (hL:I8 L) (hdim:dim<=255) (hkind:kind<=255) (hm1:1<=most) (hm8:most<=8) (hn:n=1+dim%most) (hr:RedR h n) (hT:Rch n (mc kind L n) idF h T):
  CallC Tryz.prog 16 [tL dim kind L B,.raw (.int .i64 (most:Int))] ⟨mxI 0 n n h,.one (.sl 0 0 0 n)⟩:=by
 have hn1:1<=n:=by omega
 have hn8:n<=8:=by have:=Nat.mod_lt dim (show 0<most by omega);omega
 have c1:=N8 dim kind L B most n hL hdim hkind hm1 hm8 hn;obtain⟨hg,hb⟩:=tY kind L n hn1 hn8;have c3:=EW QZ n (mc kind L n) h T hn1 hn8 (NV hn1 hn8 hb hg) hr hT;have c2:=vM n n (mc kind L n) hn1 (by omega) hn1 (by omega) (fun i j _ _=>hb.i64 i j);generalize mc kind L n=gg at*
 refine aI Tryz.func16 rfl (by kernel_rfl) ?_;rw[Tryz.ntmps16];refine aC fun _ K=>?_;simp(disch:=omega) only[kd,tL,aa,ae];apply K
 refine aF [⟨2,_,_,_,c1⟩,⟨3,_,_,_,c2⟩,⟨4,_,_,_,c3⟩] [] fun _ K=>?_;simp only[kd,tL,slI,slM,aa,Nat.reduceBEq,ab];apply K
 refine bf.weak (aE (tm:=(j4 (jk::.one (.sl 13 0 0 n)::j4 (j4 (j4 ([])))))) (l:=[(13,mxI 13 n n h)]) ⟨bZ 0 13 _ _ _,trivial⟩ (by simp[wk])) ?_;refine aC fun _ K=>?_;simp only[kd];apply K
 refine aH ⟨.inr rfl,_,b8.refl _,?_⟩;refine⟨.one (.sl 13 0 0 n),13,?_,rfl,(bZ 13 0 _ _ _).symm,rfl⟩;simp(disch:=omega) only[kd,Tryz.results16]
theorem Lc (dim kind:Nat) (L B:List Int) (most n:Nat) (h T:FF) (hL:I8 L) (hdim:dim<=255) (hkind:kind<=255) (hm1:1<=most) (hm8:most<=8) (hn:n=1+dim%most) (hr:RedR h n) (hT:Rch n (mc kind L n) idF h T):
  CallC Tryz.prog 16 [tL dim kind L B,.raw (.int .i64 (most:Int))] ⟨[],slI (mat n n h)⟩:=
 (Dh dim kind L B most n h T hL hdim hkind hm1 hm8 hn hr hT).fzI
theorem N7 (kind:Nat) (L:List Int) {n:Nat} (hn1:1<=n) (hn8:n<=8): ∃h T,RedR h n/\Rch n (mc kind L n) idF h T:=by
 obtain⟨hg,hb⟩:=tY kind L n hn1 hn8;exact(NV hn1 hn8 hb hg).ex QZ hn1 hn8
theorem Oc {h:FF} {n:Nat} (hn1:1<=n) (hn:n<=8) (hr:RedR h n):MI (mat n n h):=fun r hr' z hz=>by
 obtain⟨i,hi,rfl⟩:=List.mem_map.1 hr';obtain⟨j,hj,rfl⟩:=List.mem_map.1 hz;have:=il hn1 hn hr i (List.mem_range.1 hi) j (List.mem_range.1 hj);exact⟨by omega,by omega⟩
section
open Go.ChangeShapes Go.WideShapes Go.ChangeAt Go.RowKit
theorem ME {w:World} {l:List Int} {A:Option Addr} {c:Nat} (hl:l.length<=c) (hm:l.length<=9223372036854775807) (h:RdI .i8 w A l):cz (fun _=>False) w (.sl (ls f8 l)) (.slice A l.length c):=by
 cases l with
 |nil=>exact cz.nil _ _
 |cons z0 l0=>
  obtain⟨b,off,rfl,hc⟩:=h (by simp);have h0:=hc 0 (.int .i8 z0) (by simp);have hb:b<w.heap.size:=jV h0;have:=cz.sl (X:=fun _=>False) (w:=w) b off 1 c (ls f8 (z0::l0)) (fun i _=> .int .i8 ((z0::l0).getD i 0)) (fun h=>h) hb (fun e he=>by
   obtain⟨z,_,rfl⟩:=List.mem_map.1 he;rfl) (by rw[dW];exact hl) (by rw[dW];exact hm) (fun i e j x he hx=>by
   rw[eZ]at he;obtain⟨z,hz,rfl⟩:=Option.map_eq_some_iff.1 he;cases j with
   |succ j=>simp[f8]at hx
   |zero=>
    have:=hc i (.int .i8 z) (by rw[List.getElem?_map,hz];rfl);simp only[Nat.mul_one,Nat.add_zero,List.getD_eq_getElem?_getD,hz,Option.getD_some];exact this) (fun i e j x he hx=>by
   rw[eZ]at he;obtain⟨z,hz,rfl⟩:=Option.map_eq_some_iff.1 he;cases j with
   |succ j=>simp[f8]at hx
   |zero=>
    simp[f8]at hx;subst hx;simp only[List.getD_eq_getElem?_getD,hz,Option.getD_some];exact cz.raw _ rfl)
  rw[dW]at this;exact this
theorem uC {H:Type} {enc:TypeId×Value->H} {P:Program} {W:World} {base:Nat} {held:Bool} {t e:TypeId} {n:Nat} {v:Value} {y:DataW H×List MemPlace}
  (ht:P.underlying t=some (.slice e)) (he:P.underlying e=some (.int .i8)) (hc:P.cellsOf e=1) (h:DataW.trod enc P W base (fun _=>true) held n t [v]=some y):
  ∃L:List Int,cz (fun _=>False) W (.sl (ls f8 L)) v/\I8 L:=by
 rcases DataW.trod_slice ht h with⟨hcs,_⟩|⟨x,l,c,_,_,_,_,hcs,_⟩
 ·simp at hcs;subst hcs;exact⟨[],cz.nil _ _,fun z hz=>by simp at hz⟩
 simp at hcs;subst hcs;obtain⟨zs,g1,g2,g3,g4,g5,_⟩:=Aw (enc:=enc) (base:=base) (held:=held) (d:=y.1) (p:=y.2) ht he hc ⟨n,by simpa[Value.cells] using h⟩;refine⟨zs,?_,fun z hz=>Bc (g5 z hz)⟩;rw[g1];unfold maxLen at g3;exact ME (by omega) (by omega) g4
theorem uD {H:Type} {enc:TypeId×Value->H} {P:Program} {W:World} {base:Nat} {held:Bool} {t:TypeId} {n:Nat} {v:Value} {y:DataW H×List MemPlace}
  (ht:P.underlying t=some (.int .u8)) (h:DataW.trod enc P W base (fun _=>true) held n t [v]=some y): ∃m:Nat,v= .int .u8 (m:Int)/\m<=255:=by
 obtain⟨m,hv,_,hw⟩:=DataW.trod_int ht h;have:=jM hw;refine⟨m.toNat,?_,by omega⟩;simp at hv;rw[hv]
 congr 1
 omega
theorem Qp {w:World} {d k:Nat} {L B:List Int} {v2 v3:Value} (h2:cz (fun _=>False) w (.sl (ls f8 L)) v2) (h3:cz (fun _=>False) w (.sl (ls f8 B)) v3):
  (tL d k L B).rel (fun _ _=>none) (fun _=>[]) (fun _=>False) w (.agg #[.int .u8 (d:Int),.int .u8 (k:Int),v2,v3]):=by
 refine⟨#[.int .u8 (d:Int),.int .u8 (k:Int),v2,v3],rfl,rfl,fun j x hx=>?_⟩
 match j,hx with
 |0,hx=>simp at hx;subst hx;exact⟨_,rfl,rfl,cz.raw _ rfl⟩
 |1,hx=>simp at hx;subst hx;exact⟨_,rfl,rfl,cz.raw _ rfl⟩
 |2,hx=>simp at hx;subst hx;exact⟨_,rfl,h2.one,h2⟩
 |3,hx=>simp at hx;subst hx;exact⟨_,rfl,h3.one,h3⟩
 |j+4,hx=>simp at hx
theorem NL {w:World}: ∀{ts:List TV} {vs:List Value},ts.length=vs.length->(∀(j:Nat) t v,ts[j]?=some t->vs[j]?=some v->t.rel (fun _ _=>none) (fun _=>[]) (fun _=>False) w v)->
  ∀(j:Nat) t,ts[j]?=some t-> ∃v:Value,vs.toArray[j]?=some v/\t.rel (fun _ _=>none) (fun _=>[]) (fun _=>False) w v:=fun{ts vs} hl h j t hj=>by
 have hlt:=(List.getElem?_eq_some_iff.1 hj).1;obtain⟨v,hv⟩: ∃v,vs[j]?=some v:=⟨_,List.getElem?_eq_getElem (by omega)⟩;exact⟨v,by simpa using hv,h j t v hj hv⟩
end
def fl (c:Nat) (g:FF):Nat->Int:=fun k=>g (k/c) (k%c)
theorem Qc {c:Nat} (g:FF) {i j:Nat} (hj:j<c):fl c g (i*c+j)=g i j:=by
 unfold fl;have h:=xX (i:=i) (j:=j) (sz:=c) hj;rw[h.1,h.2]
theorem pI {n c:Nat} {g g':FF} (h: ∀a b,a<n->b<c->g a b=g' a b):bz (n*c) (fl c g)=bz (n*c) (fl c g'):=ir fun k hk=>by
 have hc:0<c:=by
  rcases Nat.eq_zero_or_pos c with h|h
  ·subst h;simp at hk
  exact h
 exact h _ _ (Nat.div_lt_of_lt_mul (by rw[Nat.mul_comm];exact hk)) (Nat.mod_lt _ hc)
theorem Ix {n c i j:Nat} (g:FF) {v:Int} (hi:i<n) (hj:j<c):(bz (n*c) (fl c g)).set (i*c+j) v=bz (n*c) (fl c (upd g i j v)):=by
 rw[qh];refine ir fun k hk=>?_
 have hc:0<c:=by omega
 unfold fl upd;by_cases h:k=i*c+j
 ·subst h;have h:=xX (i:=i) (j:=j) (sz:=c) hj;rw[h.1,h.2];simp
 rw[if_neg h];by_cases h1:k/c=i
 ·have h2:k%c≠j:=fun hh=>h (by
   have:=Nat.div_add_mod k c;rw[h1,hh,Nat.mul_comm]at this;exact this.symm)
  rw[if_pos h1];show _=if k%c=j then v else g i (k%c)
  rw[if_neg h2,h1]
 rw[if_neg h1]
theorem Eb (l:List Int) (k:Nat) (v:Int):(lc fZ l).set k [.p (.raw (.bool (decide (v<0)))),.p (.sl (ls fU (aQ v.natAbs)))]=lc fZ (l.set k v):=by
 rw[<- yc];rfl
def C1 (d n c i:Nat):List (List AV):=(List.range n).map fun k=>if k<i then[.sl d 1 (k*c) c]else[.p (.sl [])]
def yO (d n c i:Nat) (g:FF):List OObj:=[⟨84,1,C1 d n c i⟩,⟨42,2,lc fZ (bz (n*c) (fl c g))⟩]
theorem qs (d n c i:Nat):(C1 d n c i).length=n:=by simp[C1]
theorem kj {d n c i k:Nat} (h:k<n):(C1 d n c i)[k]?=some (if k<i then[.sl d 1 (k*c) c]else[.p (.sl [])]):=by
 unfold C1;rw[List.getElem?_map,List.getElem?_range h];rfl
theorem EJ {d n c i:Nat}:(C1 d n c i).set i [.sl d 1 (i*c) c]=C1 d n c (i+1):=by
 apply List.ext_getElem?;intro k;by_cases hk:k<n
 ·by_cases h:k=i
  ·subst h;rw[List.getElem?_set_self (by rw[qs];exact hk),kj hk,if_pos (Nat.lt_succ_self k)]
  rw[List.getElem?_set_ne (Ne.symm h),kj hk,kj hk];by_cases h2:k<i
  ·rw[if_pos h2,if_pos (by omega)]
  rw[if_neg h2,if_neg (by omega)]
 rw[aq (by rw[List.length_set,qs];omega),aq (by rw[qs];omega)]
theorem A3 (d n c:Nat):([⟨84,1,ae n [.raw (.slice none 0 0)]⟩]:List OObj).map zO=[⟨84,1,C1 d n c 0⟩]:=by
 simp[zO,C1,yV,y9,List.map_const']
theorem EL (n c:Nat) (g:FF):([⟨42,2,ae (n*c) [.raw (.bool false),.raw (.slice none 0 0)]⟩]:List OObj).map zO=[⟨42,2,lc fZ (bz (n*c) (fl c (part g 0 0)))⟩]:=by
 have e2:bz (n*c) (fl c (part g 0 0))=ae (n*c) 0:=by
  apply List.ext_getElem?;intro b;by_cases hb:b<n*c
  ·rw[aR _ hb,List.getElem?_replicate,if_pos hb];simp[fl,part]
  rw[aq (by rw[bv];omega),aq (by simp;omega)]
 simp[e2,zO,lc,fZ,yV,y9,ci,ls]
theorem A2 (ty d n c:Nat):n6 ⟨ty,1,C1 d n c 0⟩:=fun e he x hx=>by
 simp only[C1,ak]at he;obtain⟨k,_,rfl⟩:=he;simp at hx;subst hx;rfl
theorem EK {H:OH} {d n c i:Nat} {g:FF} (h:H d=yO d n c i g):r6 H d:=fun r o ho e he x hx=>by
 rw[h]at ho
 match r,ho with
 |0,ho=>
  simp[yO]at ho;subst ho;simp only[C1,ak]at he;obtain⟨k,_,rfl⟩:=he;split at hx
  ·simp at hx;subst hx;exact .inr ⟨1,_,_,⟨42,2,lc fZ (bz (n*c) (fl c g))⟩,rfl,by rw[h];rfl,dy _ _ _⟩
  simp at hx;subst hx;exact .inl rfl
 |1,ho=>
  simp[yO]at ho;subst ho;exact .inl (dy _ _ _ e he x hx)
 |r+2,ho=>simp[yO]at ho
theorem Gm {n c i:Nat} (g:FF) (hi:i<n):((bz (n*c) (fl c g)).take (i*c+c)).drop (i*c)=bz c (g i):=by
 have hk:i*c+c<=n*c:=by
  have:=Nat.mul_le_mul_right c hi;rw[Nat.succ_mul]at this;exact this
 apply List.ext_getElem?;intro j;rw[List.getElem?_drop,List.getElem?_take];by_cases hj:j<c
 ·rw[if_pos (by omega),aR _ (by omega),Qc g hj,aR _ hj]
 rw[if_neg (by omega),aq (by rw[bv];omega)]
theorem Kp {H:OH} {n c:Nat} {g:FF} (_hc:1<=c) (h:H 5016=yO 5016 n c n g):fD H 5016 (.one (.sl 5016 0 0 n))= .one (.p (.sl (ls (fR fZ) (mat n c g)))):=by
 have h0:(H 5016)[0]?=some ⟨84,1,C1 5016 n c n⟩:=by rw[h];rfl
 have h1:(H 5016)[1]?=some ⟨42,2,lc fZ (bz (n*c) (fl c g))⟩:=by rw[h];rfl
 simp only[fD,eG,if_true,h0]
 congr 3
 rw[Nat.zero_add,List.drop_zero,List.take_of_length_le (by rw[qs];exact Nat.le_refl _)];apply List.ext_getElem?;intro k;rw[List.getElem?_map,eZ];by_cases hk:k<n
 ·rw[kj hk,if_pos hk,bs c g hk];simp only[Option.map_some,List.map_cons,List.map_nil,gQ,h1,fE,pP,Gm g hk,nK];rfl
 rw[aq (by rw[qs];omega),aq (by rw[aU];omega)];rfl
theorem Nb (fu:FuncId) (cs1:List PV) (n c:Nat) (g:FF) (hn1:1<=n) (hn:n<=16) (hc1:1<=c) (hc:c<=16)
  (hf: ∀i j,i<n->j<c->CallC Tryz.prog fu [.raw (.int .i64 (i:Int)),.raw (.int .i64 (j:Int)),.one (.p (.ptr cs1))] ⟨[],tZ (g i j)⟩):
  CallC Tryz.prog 146 [.raw (.int .i64 (n:Int)),.raw (.int .i64 (c:Int)),.fn fu [.p (.ptr cs1)]] ⟨[],slM (mat n c g)⟩:=by
 have hN:n*c<=256:=ay (Nat.mul_le_mul hn hc) (by omega);have e0:IntKind.i64.wrap ((n:Int)*(c:Int))=((n*c:Nat):Int):=by rw[<- Int.natCast_mul];exact aO (by omega) (by omega)
 refine aI Tryz.func146 rfl (by kernel_rfl) ?_;rw[Tryz.ntmps146];refine aC fun _ K=>?_;simp only[kd,aa,ae];apply K
 refine aC fun _ K=>?_;simp(disch:=omega) only[kd,aa,e0];apply K
 refine aC fun _ K=>?_;simp(disch:=omega) only[kd,aa,ab];apply K
 refine bf.weak ((eK 14).trans ((eK 16).trans ((wa 16 14 5016 (oa:=⟨84,1,C1 5016 n c 0⟩) (oe:=⟨42,2,lc fZ (bz (n*c) (fl c (part g 0 0)))⟩) ?_ ?_ rfl (A2 _ _ _ _) (dy _ _ _) (by omega) (by omega) (by omega)).trans (aE (tm:=(jk::rN c::.fn fu [.p (.ptr cs1)]::j4 (.one (.sl 5016 1 0 (n*c))::.one (.sl 5016 0 0 n)::j16 (j16 (j16 (jk::jk::[])))))) (l:=[(5016,yO 5016 n c 0 (part g 0 0))]) ⟨rfl,trivial⟩ ?_)))) ?_
 ·exact A3 5016 n c
 ·exact EL n c g
 ·simp[wk,LZ,qV]
 simp only[yO];refine aD (aC fun _ K=>?_);simp only[kd,aa];apply K;refine aT (G:=jP n) (fun q=>⟨(jk::rN c::.fn fu [.p (.ptr cs1)]::j4 (.one (.sl 5016 1 0 (n*c))::.one (.sl 5016 0 0 n)::j4 (j4 (.one (.sl 5016 0 0 n)::rN n::rN q.i::j16 (j16 (j4 (jk::jk::jk::[]))))))),Hm [(5016,yO 5016 n c q.i (part g q.i 0))]⟩) (fun q=>n-q.i) ⟨0,by omega⟩ ?_ ?_
 ·refine aE ⟨rfl,trivial⟩ ?_;simp[wk]
 rintro⟨i,hi⟩;simp only;by_cases hm:i<n
 ·have k1:i*c<(i+1)*c:=by rw[Nat.add_mul];omega
  have k2:(i+1)*c<=n*c:=Nat.mul_le_mul_right _ hm;have k3:(i+1)*c-i*c=c:=by rw[Nat.add_mul];omega
  have e1:IntKind.i64.wrap ((i:Int)*(c:Int))=((i*c:Nat):Int):=by rw[<- Int.natCast_mul];exact aO (by omega) (by omega)
  have e2:IntKind.i64.wrap (((i:Int)+1)*(c:Int))=(((i+1)*c:Nat):Int):=by
   have:((i:Int)+1)*(c:Int)=(((i+1)*c:Nat):Int):=by rw[Int.natCast_mul];rfl
   rw[this];exact aO (by omega) (by omega)
  have t1:=kj (d:=5016) (n:=n) (c:=c) (i:=i) hm;rw[if_neg (Nat.lt_irrefl i)]at t1;have t2:=EJ (d:=5016) (n:=n) (c:=c) (i:=i);have t3:=kj (d:=5016) (n:=n) (c:=c) (i:=i+1) (k:=i) hm;rw[if_pos (Nat.lt_succ_self i)]at t3;refine aC fun _ K=>?_;simp(disch:=omega) only[kd];apply K
  refine bu rfl ?_;refine aD (aJ ?_);refine aC fun _ K=>?_;simp only[kd];apply K
  simp only[yO];refine aC fun _ K=>?_;simp(disch:=omega) only[kd,aa,e1,aO,e2,k1,k2,ah,k3,t1,t2];apply K
  refine aC fun _ K=>?_;simp(disch:=omega) only[kd,aa,t3];apply K
  refine aT (G:=jP c) (fun q=>⟨(jk::rN c::.fn fu [.p (.ptr cs1)]::j4 (.one (.sl 5016 1 0 (n*c))::.one (.sl 5016 0 0 n)::rN i::j4 (jk::jk::jk::.one (.sl 5016 0 0 n)::rN n::rN i::j16 (j4 (jk::jk::rN c::rN q.i::j4 (j4 (j4 (jk::jk::jk::[])))))))),Hm [(5016,yO 5016 n c (i+1) (part g i q.i))]⟩) (fun q=>c-q.i) ⟨0,by omega⟩ ?_ ?_
  ·refine aE ⟨rfl,trivial⟩ ?_;simp[wk]
  rintro⟨j,hj⟩;simp only;by_cases hm2:j<c
  ·have hS:=hf i j hm hm2;have hk:i*c+j<n*c:=by omega
   have g1:=aR (fl c (part g i j)) hk;have g2:=Ix (n:=n) (c:=c) (part g i j) (v:=g i j) hm hm2;refine aC fun _ K=>?_;simp(disch:=omega) only[kd];apply K
   refine bu rfl ?_;refine aD (aJ ?_);refine aC fun _ K=>?_;simp only[kd];apply K
   simp only[yO];refine d8 aW [⟨8,_,_,_,hS⟩] [] (by kernel_rfl) fun _ K=>?_;simp(disch:=omega) only[kd,tZ,aa,t3,fZ,g1,Eb,g2];apply K
   show bf _ _ _ _;refine aL fun _ K=>?_;simp(disch:=omega) only[kd,aO];apply K
   refine⟨⟨j+1,by omega⟩,by simp only;omega,aE ⟨?_,trivial⟩ ?_⟩
   ·show[_,_]=[_,_];rw[pI fun a b _ _=>jt g i j a b]
   simp[wk]
  have hjc:j=c:=by omega
  subst hjc;refine aC fun _ K=>?_;simp(disch:=omega) only[kd];apply K
  refine bD rfl ?_;show bf _ _ _ _;refine aL fun _ K=>?_;simp(disch:=omega) only[kd,aO];apply K
  refine⟨⟨i+1,by omega⟩,by simp only;omega,aE ⟨?_,trivial⟩ ?_⟩
  ·show[_,_]=[_,_];rw[pI fun a b _ hb=>kU g i a b hb]
  simp[wk]
 have hin:i=n:=by omega
 subst hin;refine aC fun _ K=>?_;simp(disch:=omega) only[kd];apply K
 refine bD rfl ?_;show bf _ _ _ _;refine aC fun _ K=>?_;simp only[kd];apply K
 refine bf.weak ((bC 5016 (EK rfl)).trans (aE (tm:=(j4 (jk::jk::slM (mat i c g)::j16 (j16 (j16 (j4 ([]))))))) (l:=[]) trivial ?_)) ?_
 ·have e:=Kp (c:=c) (H:=Hm [(5016,yO 5016 i c i (part g i 0))]) hc1 rfl;rw[dR fun a b ha _=>jG g a b ha]at e;simp[wk];exact e.symm
 (refine aH ⟨.inr rfl,aG rfl ?_ rfl⟩;simp(disch:=omega) only[kd,Tryz.results146,slM])
theorem Nc (fu:FuncId) (cs1:List PV) (b:Nat) (ty:TypeId) (cs:List PV) (n c:Nat) (g:FF) (hn1:1<=n) (hn:n<=16) (hc1:1<=c) (hc:c<=16)
  (hf: ∀i j,i<n->j<c->CallT Tryz.prog b ty fu [.raw (.int .i64 (i:Int)),.raw (.int .i64 (j:Int)),.one (.p (.ptr cs1)),.raw (.pointer (some ⟨b,0,none⟩))] cs ⟨[],tZ (g i j)⟩ cs):
  CallT Tryz.prog b ty 146 [.raw (.int .i64 (n:Int)),.raw (.int .i64 (c:Int)),.fn fu [.p (.ptr cs1),.p (.raw (.pointer (some ⟨b,0,none⟩)))]] cs ⟨[],slM (mat n c g)⟩ cs:=by
 have hN:n*c<=256:=ay (Nat.mul_le_mul hn hc) (by omega);have e0:IntKind.i64.wrap ((n:Int)*(c:Int))=((n*c:Nat):Int):=by rw[<- Int.natCast_mul];exact aO (by omega) (by omega)
 refine mD Tryz.func146 rfl (by kernel_rfl) ?_;rw[Tryz.ntmps146];refine aZ fun _ K=>?_;simp only[kd,aa,ae];apply K
 refine aZ fun _ K=>?_;simp(disch:=omega) only[kd,aa,e0];apply K
 refine aZ fun _ K=>?_;simp(disch:=omega) only[kd,aa,ab];apply K
 refine fi.weak ((eK 14).trans ((eK 16).trans ((wa 16 14 5016 (oa:=⟨84,1,C1 5016 n c 0⟩) (oe:=⟨42,2,lc fZ (bz (n*c) (fl c (part g 0 0)))⟩) ?_ ?_ rfl (A2 _ _ _ _) (dy _ _ _) (by omega) (by omega) (by omega)).trans (aE (tm:=(jk::rN c::.fn fu [.p (.ptr cs1),.p (.raw (.pointer (some ⟨b,0,none⟩)))]::j4 (.one (.sl 5016 1 0 (n*c))::.one (.sl 5016 0 0 n)::j16 (j16 (j16 (jk::jk::[])))))) (l:=[(5016,yO 5016 n c 0 (part g 0 0))]) ⟨rfl,trivial⟩ ?_)))) ?_
 ·exact A3 5016 n c
 ·exact EL n c g
 ·simp[wk,LZ,qV]
 simp only[yO];refine df (aZ fun _ K=>?_);simp only[kd,aa];apply K;refine mt (G:=jP n) (fun q=>⟨(jk::rN c::.fn fu [.p (.ptr cs1),.p (.raw (.pointer (some ⟨b,0,none⟩)))]::j4 (.one (.sl 5016 1 0 (n*c))::.one (.sl 5016 0 0 n)::j4 (j4 (.one (.sl 5016 0 0 n)::rN n::rN q.i::j16 (j16 (j4 (jk::jk::jk::[]))))))),Hm [(5016,yO 5016 n c q.i (part g q.i 0))]⟩) (fun _=>cs) (fun q=>n-q.i) ⟨0,by omega⟩ ?_ rfl ?_
 ·refine aE ⟨rfl,trivial⟩ ?_;simp[wk]
 rintro⟨i,hi⟩;simp only;by_cases hm:i<n
 ·have k1:i*c<(i+1)*c:=by rw[Nat.add_mul];omega
  have k2:(i+1)*c<=n*c:=Nat.mul_le_mul_right _ hm;have k3:(i+1)*c-i*c=c:=by rw[Nat.add_mul];omega
  have e1:IntKind.i64.wrap ((i:Int)*(c:Int))=((i*c:Nat):Int):=by rw[<- Int.natCast_mul];exact aO (by omega) (by omega)
  have e2:IntKind.i64.wrap (((i:Int)+1)*(c:Int))=(((i+1)*c:Nat):Int):=by
   have:((i:Int)+1)*(c:Int)=(((i+1)*c:Nat):Int):=by rw[Int.natCast_mul];rfl
   rw[this];exact aO (by omega) (by omega)
  have t1:=kj (d:=5016) (n:=n) (c:=c) (i:=i) hm;rw[if_neg (Nat.lt_irrefl i)]at t1;have t2:=EJ (d:=5016) (n:=n) (c:=c) (i:=i);have t3:=kj (d:=5016) (n:=n) (c:=c) (i:=i+1) (k:=i) hm;rw[if_pos (Nat.lt_succ_self i)]at t3;refine aZ fun _ K=>?_;simp(disch:=omega) only[kd];apply K
  refine xB rfl ?_;refine df (dQ ?_);refine aZ fun _ K=>?_;simp only[kd];apply K
  simp only[yO];refine aZ fun _ K=>?_;simp(disch:=omega) only[kd,aa,e1,aO,e2,k1,k2,ah,k3,t1,t2];apply K
  refine aZ fun _ K=>?_;simp(disch:=omega) only[kd,aa,t3];apply K
  refine mt (G:=jP c) (fun q=>⟨(jk::rN c::.fn fu [.p (.ptr cs1),.p (.raw (.pointer (some ⟨b,0,none⟩)))]::j4 (.one (.sl 5016 1 0 (n*c))::.one (.sl 5016 0 0 n)::rN i::j4 (jk::jk::jk::.one (.sl 5016 0 0 n)::rN n::rN i::j16 (j4 (jk::jk::rN c::rN q.i::j4 (j4 (j4 (jk::jk::jk::[])))))))),Hm [(5016,yO 5016 n c (i+1) (part g i q.i))]⟩) (fun _=>cs) (fun q=>c-q.i) ⟨0,by omega⟩ ?_ rfl ?_
  ·refine aE ⟨rfl,trivial⟩ ?_;simp[wk]
  rintro⟨j,hj⟩;simp only;by_cases hm2:j<c
  ·have hS:=hf i j hm hm2;have hk:i*c+j<n*c:=by omega
   have g1:=aR (fl c (part g i j)) hk;have g2:=Ix (n:=n) (c:=c) (part g i j) (v:=g i j) hm hm2;refine aZ fun _ K=>?_;simp(disch:=omega) only[kd];apply K
   refine xB rfl ?_;refine df (dQ ?_);refine aZ fun _ K=>?_;simp only[kd];apply K
   simp only[yO];refine lB aW 8 hS [] [] (by kernel_rfl) (by kernel_rfl) (by rfl) (by rfl) fun _ K=>?_;simp(disch:=omega) only[kd,tZ,aa,t3,fZ,g1,Eb,g2];apply K
   show fi _ _ _ _ _ _ _;refine fB fun _ K=>?_;simp(disch:=omega) only[kd,aO];apply K
   refine⟨⟨j+1,by omega⟩,by simp only;omega,aE ⟨?_,trivial⟩ ?_,rfl⟩
   ·show[_,_]=[_,_];rw[pI fun a b _ _=>jt g i j a b]
   simp[wk]
  have hjc:j=c:=by omega
  subst hjc;refine aZ fun _ K=>?_;simp(disch:=omega) only[kd];apply K
  refine xA rfl ?_;show fi _ _ _ _ _ _ _;refine fB fun _ K=>?_;simp(disch:=omega) only[kd,aO];apply K
  refine⟨⟨i+1,by omega⟩,by simp only;omega,aE ⟨?_,trivial⟩ ?_,rfl⟩
  ·show[_,_]=[_,_];rw[pI fun a b _ hb=>kU g i a b hb]
  simp[wk]
 have hin:i=n:=by omega
 subst hin;refine aZ fun _ K=>?_;simp(disch:=omega) only[kd];apply K
 refine xA rfl ?_;show fi _ _ _ _ _ _ _;refine aZ fun _ K=>?_;simp only[kd];apply K
 refine fi.weak ((bC 5016 (EK rfl)).trans (aE (tm:=(j4 (jk::jk::slM (mat i c g)::j16 (j16 (j16 (j4 ([]))))))) (l:=[]) trivial ?_)) ?_
 ·have e:=Kp (c:=c) (H:=Hm [(5016,yO 5016 i c i (part g i 0))]) hc1 rfl;rw[dR fun a b ha _=>jG g a b ha]at e;simp[wk];exact e.symm
 (refine nE ⟨.inr rfl,rfl,aG rfl ?_ rfl⟩;simp(disch:=omega) only[kd,Tryz.results146,slM])
theorem dZ (l:List Nat) (hb:l.length<=1073741824):CallC Tryz.prog 145 [bA l] ⟨[],bA (dX l)⟩:=by
 refine aI Tryz.func145 rfl (by kernel_rfl) ?_;rw[Tryz.ntmps145];refine aC fun _ K=>?_;simp only[kd,bA,ae];apply K
 refine aD (aT (G:={n:Nat//n<=l.length/\dX l=dX (l.take n)}) (fun n=>⟨(bA (l.take n.1)::j16 (j4 ([]))),Hm []⟩) (fun n=>n.1) ⟨l.length,Nat.le_refl _,by simp⟩ ?_ ?_)
 ·refine aE trivial ?_;simp[wk]
 rintro⟨n,hn,hT⟩;simp only;have hlen:(l.take n).length=n:=by simp;omega
 by_cases h0:0<n
 ·obtain⟨a,ha⟩:=getElem?_of_lt (l:=l) (k:=n-1) (by omega);have e1:((n:Int)-1).toNat=n-1:=by omega
  have ha2:(l.take n)[n-1]?=some a:=by rw[List.getElem?_take,if_pos (by omega),ha]
  have htk:l.take n=l.take (n-1)++[a]:=by
   have:=List.take_succ_eq_append_getElem (i:=n-1) (l:=l) (by omega);rw[show n-1+1=n by omega]at this;rw[this,(List.getElem?_eq_some_iff.1 ha).2]
  refine aD (aC fun _ K=>?_);simp(disch:=omega) only[kd,aa,bA,hlen,aO,e1,ha2];apply K;refine bP rfl (fun hz=>aK ?_) (fun hz=>bE ?_)
  ·have hz':a=0:=by simpa using hz
   refine aJ ?_;refine aL fun _ K=>?_;simp(disch:=omega) only[kd,aa,hlen,aO,e1,Cl xY];apply K
   refine⟨⟨n-1,by omega,?_⟩,by simp only;omega,aE trivial ?_⟩
   ·rw[hT,htk,hz',nt]
   simp[wk,List.take_take,Nat.min_eq_left (show n-1<=n by omega)]
  have hz':a≠0:=by intro e;simp[e]at hz
  have hfin:dX l=l.take n:=by rw[hT,htk,xn hz']
  show bf _ _ _ _;refine aC fun _ K=>?_;simp(disch:=omega) only[kd];apply K
  (refine aH ⟨.inr rfl,aG rfl ?_ rfl⟩;simp(disch:=omega) only[kd,Tryz.results145,bA,hfin])
 have hn0:n=0:=by omega
 subst hn0;have hfin:dX l=l.take 0:=by rw[hT];simp[dX]
 refine aD (aC fun _ K=>?_);simp(disch:=omega) only[kd,aa,bA];apply K;refine bP rfl (fun hz=>by cases hz) (fun hz=>bE ?_);show bf _ _ _ _;refine aC fun _ K=>?_;simp only[kd];apply K
 (refine aH ⟨.inr rfl,aG rfl ?_ rfl⟩;simp(disch:=omega) only[kd,Tryz.results145,bA,hfin])
theorem eE (neg:Bool) (n:Nat):CallC Tryz.prog 141 [.raw (.bool neg),bA (aQ n)] ⟨[],tZ (f6 neg n)⟩:=by
 by_cases h0:n=0
 ·subst h0;rw[ci,show tZ (f6 neg 0)= .agg [.p (.raw (.bool false)),.p (.sl (ls fU []))] by
   have:f6 neg 0=0:=by cases neg<;>rfl
   simp[this,tZ,ci]]
  refine aI Tryz.func141 rfl (by kernel_rfl) ?_;rw[Tryz.ntmps141];refine aC fun _ K=>?_;simp(disch:=omega) only[kd,bA,aa,ae];apply K
  refine aD (aC fun _ K=>?_);simp(disch:=omega) only[kd,aa];apply K;refine aS rfl ?_;refine aC fun _ K=>?_;simp(disch:=omega) only[kd,aa];apply K
  refine aH ⟨.inr rfl,?_⟩;refine⟨_,eK 4,qg (d:=1000) rfl ?_ rfl⟩;simp(disch:=omega) only[kd,Tryz.results141,zH,zO,yV,y9,aa]
 have hl:=fJ (n:=n);have hl':(aQ n).length≠0:=by omega
 rw[show tZ (f6 neg n)= .agg [.p (.raw (.bool neg)),.p (.sl (ls fU (aQ n)))] by
  have:decide (0<n)=true:=by simp;omega
  simp[tZ,nf,yJ,this]]
 refine aI Tryz.func141 rfl (by kernel_rfl) ?_;rw[Tryz.ntmps141];refine aC fun _ K=>?_;simp(disch:=omega) only[kd,bA,aa,ae];apply K
 refine aD (aC fun _ K=>?_);simp(disch:=omega) only[kd,aa];apply K;refine aN rfl (aK ?_);show bf _ _ _ _;refine aC fun _ K=>?_;simp(disch:=omega) only[kd,aa,ah];apply K
 (refine aH ⟨.inr rfl,aG rfl ?_ rfl⟩;simp(disch:=omega) only[kd,Tryz.results141,aa])
theorem tp {P:Program} {f:FuncId} {args:List TV} {r:TV} (hc:callable P f=true) (h: ∀(X:Nat->Prop) (w:World) (vs:Array Value),(∀b,X b->b<w.heap.size)->vs.size=args.length->
  (∀(j:Nat) t,args[j]?=some t-> ∃v:Value,vs[j]?=some v/\t.rel (fun _ _=>none) (fun _=>[]) X w v)->Calls P f vs w fun e w'=> ∃v,e= .returned v/\(∀ρ H Y,(∀b,Y b->b<w.heap.size)->r.rel ρ H Y w' v)/\Ext w w'):CallC P f args ⟨[],r⟩:=
 ⟨hc,fun X w vs hX hvs ha=>(h X w vs hX hvs ha).mono fun e w' ⟨v,h1,h2,h3⟩=>⟨v,h1,fun _ _=>none,D4 h3 hX,h2 _ _ _ (fun b hb=>by
  rcases hb with hb|⟨a,r,o,c,ho,hr⟩
  ·exact hX b hb
  cases hr)⟩⟩
end Go.Proofs.YtfgeomlagfomgaaGreatDoor
