/-
  Part 17 of a proof (walks and plain facts).
-/
import Derived.Test.YtfgeomlagfomgaaGreatDoorP15
import Derived.Lib.SmallJoins
set_option linter.all false
set_option maxRecDepth 100000
set_option maxHeartbeats 64000000
open Nat renaming reduceAdd → aa
open Nat renaming reduceEqDiff → ab
open List renaming replicate → ae
open Nat renaming reduceLeDiff → ah
open List renaming mem_map → ak
open List renaming getElem?_eq_none → aq
open Nat renaming le_trans → az
namespace Go.Proofs.YtfgeomlagfomgaaGreatDoor
open Go.RowKit
theorem KA {P:Program} {b:Nat} {ty:TypeId} {c z:Code} {Q:Exit->AS->List PV->Prop} {s S:AS} {cs cs1:List PV} (h1:eB P b ty c (rx (fun s' k=>ca s' S/\k=cs1) Q) s cs) (h2:eB P b ty z Q S cs1):eB P b ty c (rx (eB P b ty z Q) Q) s cs:=h1.mono fun e s' k h=>by
 cases e with
 |normal=>
  obtain⟨g1,rfl⟩:=h;exact eB.weak g1 h2
 |_=>exact h
def ky (kind:Nat) (L:List Int) (n:Nat):(Nat->Nat->Int)×Nat:=
 if kind%8<4 then oS L (f5 L 0 6,j7 L 0 n) n
 else if kind%8=4 then(upd (iZ false n n) 0 0 (iZ false n n 0 0+(l5 L 0 3:Int)),f9 L 0)
 else if kind%8=5 then(upd (iZ true n n) (n-1) (n-1) (iZ true n n (n-1) (n-1)+(l5 L 0 2:Int)),f9 L 0)
 else if kind%8=6 then(f5 L 0 9,j7 L 0 n)
 else(f5 L 0 1,j7 L 0 n)
open Classical in
noncomputable def lV (kind:Nat) (L:List Int) (n:Nat):Nat->Nat->Int:=if GoodP n (ky kind L n).1 then(ky kind L n).1 else f5 L (ky kind L n).2 2
theorem qQ (f:FF) (i j:Nat) (v:Int) (a b:Nat):upd f i j v a b=v\/upd f i j v a b=f a b:=by
 by_cases h:a=i/\b=j
 ·obtain⟨rfl,rfl⟩:=h;exact .inl (yg f a b v)
 exact .inr (oR (by omega))
def AI (f:FF):Prop:= ∀a b,-9<=f a b/\f a b<=9
theorem AI.i64 {f:FF} (h:AI f) (a b:Nat):wR (f a b):=by have:=h a b;exact⟨by omega,by omega⟩
theorem AI.upd {f:FF} (h:AI f) {i j:Nat} {v:Int} (h1: -9<=v) (h2:v<=9):AI (Go.Proofs.YtfgeomlagfomgaaGreatDoor.upd f i j v):=fun a b=>by
 rcases qQ f i j v a b with e|e
 ·rw[e];exact⟨h1,h2⟩
 rw[e];exact h a b
theorem xo {L:List Int} {a most:Nat} (h1:0<most) (h2:most<=9):AI (f5 L a most):=fun i j=>by
 unfold f5;split
 ·have:=kW (n:=most) L (j7 L a i) h1;omega
 omega
theorem Nk (x:Int): -2<=Int.tmod x 3/\Int.tmod x 3<=2:=by
 have h1:=Int.tmod_lt_of_pos x (show(0:Int)<3 by omega);have h2:=Int.lt_tmod_of_pos x (show(0:Int)<3 by omega);omega
theorem HU {L:List Int} {i:Nat} {s:(Nat->Nat->Int)×Nat} (h:AI s.1): ∀k,AI (Kj L i s k).1
 |0=>h
 |k+1=>by
  have:=Nk (L.getD (Kj L i s k).2 0);exact((HU h k).upd (by omega) (by omega)).upd (by omega) (by omega)
theorem HJ {L:List Int} {s:(Nat->Nat->Int)×Nat} (h:AI s.1): ∀i,AI (oS L s i).1
 |0=>h
 |i+1=>HU (HJ h i) i
theorem ov (fork:Bool) (n:Nat): ∀i a b,-1<=iZ fork n i a b/\iZ fork n i a b<=2
 |0,_,_=>by simp[iZ]
 |i+1,a,b=>by
  have ih:=ov fork n i;have u: ∀(f:FF) (i j:Nat) (v:Int),(∀a b,-1<=f a b/\f a b<=2)-> -1<=v/\v<=2-> ∀a b,-1<=upd f i j v a b/\upd f i j v a b<=2:=fun f i j v hf hv a b=>by
   rcases qQ f i j v a b with e|e
   ·rw[e];exact hv
   rw[e];exact hf a b
  unfold iZ;split
  ·exact u _ _ _ _ ih (by omega) a b
  exact u _ _ _ _ (u _ _ _ _ (u _ _ _ _ ih (by omega)) (by omega)) (by omega) a b
theorem DT (kind:Nat) (L:List Int) (n:Nat):AI (ky kind L n).1:=by
 have b3:=kW (n:=3) L 0 (by omega);have b2:=kW (n:=2) L 0 (by omega);have c1:=ov false n n 0 0;have c2:=ov true n n (n-1) (n-1);unfold ky;split
 ·exact HJ (xo (by omega) (by omega)) n
 split
 ·exact AI.upd (fun a b=>by have:=ov false n n a b;omega) (by omega) (by omega)
 split
 ·exact AI.upd (fun a b=>by have:=ov true n n a b;omega) (by omega) (by omega)
 split
 ·exact xo (by omega) (by omega)
 exact xo (by omega) (by omega)
theorem LX (kind:Nat) (L:List Int) (n:Nat):(ky kind L n).2<=L.length:=by
 unfold ky;split
 ·exact BB (qh (by omega) n) n
 split
 ·exact nG (by omega)
 split
 ·exact nG (by omega)
 split
 ·exact qh (by omega) n
 exact qh (by omega) n
abbrev tL (dim kind:Nat) (L B:List Int):TV:= .agg [.p (.raw (.int .u8 (dim:Int))),.p (.raw (.int .u8 (kind:Int))),.p (.sl (ls f8 L)),.p (.sl (ls f8 B))]
theorem Nv (dim kind:Nat) (L B:List Int) (most n:Nat) (hL:I8 L) (hdim:dim<=255) (hkind:kind<=255) (hm1:1<=most) (hm8:most<=8) (hn:n=1+dim%most):
  CallC Tryz.prog 40 [tL dim kind L B,.raw (.int .i64 (most:Int))] ⟨[],slI (mat n n (lV kind L n))⟩:=by
 have hn1:1<=n:=by omega
 have hn8:n<=8:=by have:=Nat.mod_lt dim (show 0<most by omega);omega
 have e1:Int.tmod (dim:Int) (most:Int)=((dim%most:Nat):Int):=(Int.ofNat_tmod dim most).symm;have e2:Int.tmod (kind:Int) 8=((kind%8:Nat):Int):=(Int.ofNat_tmod kind 8).symm;have e3:1+((dim%most:Nat):Int)=(n:Int):=by omega
 refine aI Tryz.func40 rfl (by kernel_rfl) ?_;rw[Tryz.ntmps40];refine aD fun _ K=>?_;simp(disch:=omega) only[kd,tL,aa,ae];apply K
 refine aD fun _ K=>?_;simp(disch:=omega) only[kd,aa,ah,ab];apply K
 refine Gt 11 (cs:=FU L 0) rfl fun b=>?_
 refine eB.weak (aE (tm:=(jk::rN most::.one (.ptr 2 0 0 0)::jk::jk::dq b::j16 (j16 (j16 (j16 (j4 ([]))))))) (l:=[(2,[⟨32,4,[[.p (.raw (.int .u8 (dim:Int))),.p (.raw (.int .u8 (kind:Int))),.p (.sl (ls f8 L)),.p (.sl (ls f8 B))]]⟩])]) ⟨rfl,trivial⟩ (by simp[wk,tE,km])) ?_;refine aZ fun _ K=>?_;simp(disch:=omega) only[kd,aa,dq,aO,e1,e3];apply K
 refine aZ fun _ K=>?_;simp only[kd];apply K
 refine cP (aZ fun _ K=>?_);simp(disch:=omega) only[kd,aa,e2];apply K;have hraw:=DT kind L n;have hple:=LX kind L n;refine KA (S:=⟨(j4 (jk::dq b::rN n::slI (mat n n (ky kind L n).1)::j16 (j16 (j16 (j16 (jk::jk::[])))))),Hm []⟩) (cs1:=FU L (ky kind L n).2) ?_ ?_
 ·have hk8:=Nat.mod_lt kind (show 0<8 by omega);have hG:kind%8<4->ky kind L n=oS L (f5 L 0 6,j7 L 0 n) n:=fun h=>by unfold ky;rw[if_pos h]
  have cg:=ER b L 0 n hL (by omega) hn8;have cha:=C0 n false hn8;have chb:=C0 n true hn8;have cb3:=wO b L 0 3 hL (by omega) (by omega) (by omega);have cb2:=wO b L 0 2 hL (by omega) (by omega) (by omega);have cd9:=lf b L 0 n 9 hL (by omega) hn8 (by omega) (by omega);have cd1:=lf b L 0 n 1 hL (by omega) hn8 (by omega) (by omega);rw[show((3:Nat):Int)=3 from rfl]at cb3;rw[show((2:Nat):Int)=2 from rfl]at cb2;rw[show((9:Nat):Int)=9 from rfl]at cd9;rw[show((1:Nat):Int)=1 from rfl]at cd1;have q3:=kW (n:=3) L 0 (by omega);have q2:=kW (n:=2) L 0 (by omega);have r1:=ov false n n 0 0;have r2:=ov true n n (n-1) (n-1);have x0:((n:Int)-1).toNat=n-1:=by omega
  have x1:=bK (n:=n) (i:=0) 35 n (by omega);have x2:=cd (n:=n) n (iZ false n n) (i:=0) (by omega);have x3:=aT (m:=n) (iZ false n n 0) (j:=0) (by omega);have y1:=bK (n:=n) (i:=n-1) 48 n (by omega);have y2:=cd (n:=n) n (iZ true n n) (i:=n-1) (by omega);have y3:=aT (m:=n) (iZ true n n (n-1)) (j:=n-1) (by omega);have hcase:kind%8=0\/kind%8=1\/kind%8=2\/kind%8=3\/kind%8=4\/kind%8=5\/kind%8=6\/kind%8=7:=by omega
  rcases hcase with hkk|hkk|hkk|hkk|hkk|hkk|hkk|hkk
  ·have hk:kind%8=0:=by omega
   rw[hk,show((0:Nat):Int)=0 from rfl];refine dC ?_;refine cP (aZ fun _ K=>?_);simp(disch:=omega) only[kd];apply K;refine gR rfl (j9 ?_);show eB _ _ _ _ _ _ _;refine gR rfl ?_;refine gS 2 cg [] [] (by kernel_rfl) (by rfl) (by rfl) fun _ K=>?_;simp only[kd,dq,aa,ab];apply K
   rw[hG (by omega)];refine⟨(aE (tm:=(j4 (jk::dq b::rN n::.one (.sl 31 0 0 n)::j16 (j16 (j16 (j16 (jk::jk::[]))))))) (l:=[(31,mxI 31 n n ((oS L (f5 L 0 6,j7 L 0 n) n).1))]) ⟨bU 0 31 n n _,trivial⟩ (by simp[wk])).trans ((bH 31 (cu rfl)).trans (aE (tm:=(j4 (jk::dq b::rN n::slI (mat n n ((oS L (f5 L 0 6,j7 L 0 n) n).1))::j16 (j16 (j16 (j16 (jk::jk::[]))))))) (l:=[]) trivial (by
    simp[wk];exact⟨rfl,rfl,(iH (H:=Hm [(31,mxI 31 n n ((oS L (f5 L 0 6,j7 L 0 n) n).1))]) (d:=31) (n:=n) (c:=n) (f:=(oS L (f5 L 0 6,j7 L 0 n) n).1) rfl).symm⟩))),rfl⟩
  ·have hk:kind%8=1:=by omega
   rw[hk,show((1:Nat):Int)=1 from rfl];refine dC ?_;refine cP (aZ fun _ K=>?_);simp(disch:=omega) only[kd];apply K;refine cX rfl ?_;refine aZ fun _ K=>?_;simp(disch:=omega) only[kd];apply K
   refine gR rfl (j9 ?_);show eB _ _ _ _ _ _ _;refine gR rfl ?_;refine gS 2 cg [] [] (by kernel_rfl) (by rfl) (by rfl) fun _ K=>?_;simp only[kd,dq,aa,ab];apply K
   rw[hG (by omega)];refine⟨(aE (tm:=(j4 (jk::dq b::rN n::.one (.sl 31 0 0 n)::j16 (j16 (j16 (j16 (jk::jk::[]))))))) (l:=[(31,mxI 31 n n ((oS L (f5 L 0 6,j7 L 0 n) n).1))]) ⟨bU 0 31 n n _,trivial⟩ (by simp[wk])).trans ((bH 31 (cu rfl)).trans (aE (tm:=(j4 (jk::dq b::rN n::slI (mat n n ((oS L (f5 L 0 6,j7 L 0 n) n).1))::j16 (j16 (j16 (j16 (jk::jk::[]))))))) (l:=[]) trivial (by
    simp[wk];exact⟨rfl,rfl,(iH (H:=Hm [(31,mxI 31 n n ((oS L (f5 L 0 6,j7 L 0 n) n).1))]) (d:=31) (n:=n) (c:=n) (f:=(oS L (f5 L 0 6,j7 L 0 n) n).1) rfl).symm⟩))),rfl⟩
  ·have hk:kind%8=2:=by omega
   rw[hk,show((2:Nat):Int)=2 from rfl];refine dC ?_;refine cP (aZ fun _ K=>?_);simp(disch:=omega) only[kd];apply K;refine cX rfl ?_;refine aZ fun _ K=>?_;simp(disch:=omega) only[kd];apply K
   refine cX rfl ?_;refine aZ fun _ K=>?_;simp(disch:=omega) only[kd];apply K
   refine gR rfl (j9 ?_);show eB _ _ _ _ _ _ _;refine gR rfl ?_;refine gS 2 cg [] [] (by kernel_rfl) (by rfl) (by rfl) fun _ K=>?_;simp only[kd,dq,aa,ab];apply K
   rw[hG (by omega)];refine⟨(aE (tm:=(j4 (jk::dq b::rN n::.one (.sl 31 0 0 n)::j16 (j16 (j16 (j16 (jk::jk::[]))))))) (l:=[(31,mxI 31 n n ((oS L (f5 L 0 6,j7 L 0 n) n).1))]) ⟨bU 0 31 n n _,trivial⟩ (by simp[wk])).trans ((bH 31 (cu rfl)).trans (aE (tm:=(j4 (jk::dq b::rN n::slI (mat n n ((oS L (f5 L 0 6,j7 L 0 n) n).1))::j16 (j16 (j16 (j16 (jk::jk::[]))))))) (l:=[]) trivial (by
    simp[wk];exact⟨rfl,rfl,(iH (H:=Hm [(31,mxI 31 n n ((oS L (f5 L 0 6,j7 L 0 n) n).1))]) (d:=31) (n:=n) (c:=n) (f:=(oS L (f5 L 0 6,j7 L 0 n) n).1) rfl).symm⟩))),rfl⟩
  ·have hk:kind%8=3:=by omega
   rw[hk,show((3:Nat):Int)=3 from rfl];refine dC ?_;refine cP (aZ fun _ K=>?_);simp(disch:=omega) only[kd];apply K;refine cX rfl ?_;refine aZ fun _ K=>?_;simp(disch:=omega) only[kd];apply K
   refine cX rfl ?_;refine aZ fun _ K=>?_;simp(disch:=omega) only[kd];apply K
   refine cX rfl ?_;refine eY fun _ K=>?_;simp(disch:=omega) only[kd];apply K
   show eB _ _ _ _ _ _ _;refine gR rfl ?_;refine gS 2 cg [] [] (by kernel_rfl) (by rfl) (by rfl) fun _ K=>?_;simp only[kd,dq,aa,ab];apply K
   rw[hG (by omega)];refine⟨(aE (tm:=(j4 (jk::dq b::rN n::.one (.sl 31 0 0 n)::j16 (j16 (j16 (j16 (jk::jk::[]))))))) (l:=[(31,mxI 31 n n ((oS L (f5 L 0 6,j7 L 0 n) n).1))]) ⟨bU 0 31 n n _,trivial⟩ (by simp[wk])).trans ((bH 31 (cu rfl)).trans (aE (tm:=(j4 (jk::dq b::rN n::slI (mat n n ((oS L (f5 L 0 6,j7 L 0 n) n).1))::j16 (j16 (j16 (j16 (jk::jk::[]))))))) (l:=[]) trivial (by
    simp[wk];exact⟨rfl,rfl,(iH (H:=Hm [(31,mxI 31 n n ((oS L (f5 L 0 6,j7 L 0 n) n).1))]) (d:=31) (n:=n) (c:=n) (f:=(oS L (f5 L 0 6,j7 L 0 n) n).1) rfl).symm⟩))),rfl⟩
  ·have hk:kind%8=4:=by omega
   rw[hk,show((4:Nat):Int)=4 from rfl];refine dC ?_;refine cP (aZ fun _ K=>?_);simp(disch:=omega) only[kd];apply K;refine cX rfl ?_;refine aZ fun _ K=>?_;simp(disch:=omega) only[kd];apply K
   refine cX rfl ?_;refine aZ fun _ K=>?_;simp(disch:=omega) only[kd];apply K
   refine cX rfl ?_;refine eY fun _ K=>?_;simp(disch:=omega) only[kd];apply K
   show eB _ _ _ _ _ _ _;refine cX rfl ?_;refine aZ fun _ K=>?_;simp(disch:=omega) only[kd];apply K
   refine gR rfl ?_;refine mb [⟨1,_,_,_,cha⟩] [] fun _ K=>?_;simp only[kd,aa,ab];apply K
   refine eB.weak (aE (tm:=(j4 (jk::dq b::rN n::.one (.sl 35 0 0 n)::j16 (j16 (j16 (j16 (jk::jk::[]))))))) (l:=[(35,mxI 35 n n (iZ false n n))]) ⟨bU 0 35 n n _,trivial⟩ (by simp[wk])) ?_;refine kS be 6 cb3 [] [] (by kernel_rfl) (by kernel_rfl) (by rfl) (by rfl) fun _ K=>?_;simp(disch:=omega) only[kd,dq,aa,Int.reduceToNat,x1,x2,x3,aO,dK];apply K
   rw[show ky kind L n=(upd (iZ false n n) 0 0 (iZ false n n 0 0+(l5 L 0 3:Int)),f9 L 0) by unfold ky;rw[if_neg (by omega),if_pos hk]];refine⟨(aE (tm:=(j4 (jk::dq b::rN n::.one (.sl 35 0 0 n)::j16 (j16 (j16 (j16 (jk::jk::[]))))))) (l:=[(35,mxI 35 n n (upd (iZ false n n) 0 0 (iZ false n n 0 0+(l5 L 0 3:Int))))]) ⟨rfl,trivial⟩ (by simp[wk])).trans ((bH 35 (cu rfl)).trans (aE (tm:=(j4 (jk::dq b::rN n::slI (mat n n (upd (iZ false n n) 0 0 (iZ false n n 0 0+(l5 L 0 3:Int))))::j16 (j16 (j16 (j16 (jk::jk::[]))))))) (l:=[]) trivial (by
    simp[wk];exact⟨rfl,rfl,(iH (H:=Hm [(35,mxI 35 n n (upd (iZ false n n) 0 0 (iZ false n n 0 0+(l5 L 0 3:Int))))]) (d:=35) (n:=n) (c:=n) (f:=upd (iZ false n n) 0 0 (iZ false n n 0 0+(l5 L 0 3:Int))) rfl).symm⟩))),rfl⟩
  ·have hk:kind%8=5:=by omega
   rw[hk,show((5:Nat):Int)=5 from rfl];refine dC ?_;refine cP (aZ fun _ K=>?_);simp(disch:=omega) only[kd];apply K;refine cX rfl ?_;refine aZ fun _ K=>?_;simp(disch:=omega) only[kd];apply K
   refine cX rfl ?_;refine aZ fun _ K=>?_;simp(disch:=omega) only[kd];apply K
   refine cX rfl ?_;refine eY fun _ K=>?_;simp(disch:=omega) only[kd];apply K
   show eB _ _ _ _ _ _ _;refine cX rfl ?_;refine aZ fun _ K=>?_;simp(disch:=omega) only[kd];apply K
   refine cX rfl ?_;refine aZ fun _ K=>?_;simp(disch:=omega) only[kd];apply K
   refine gR rfl ?_;refine mb [⟨1,_,_,_,chb⟩] [] fun _ K=>?_;simp only[kd,aa,ab];apply K
   refine eB.weak (aE (tm:=(j4 (jk::dq b::rN n::.one (.sl 48 0 0 n)::j16 (j16 (j16 (j16 (jk::jk::[]))))))) (l:=[(48,mxI 48 n n (iZ true n n))]) ⟨bU 0 48 n n _,trivial⟩ (by simp[wk])) ?_;refine kS be 10 cb2 [] [] (by kernel_rfl) (by kernel_rfl) (by rfl) (by rfl) fun _ K=>?_;simp(disch:=omega) only[kd,dq,aa,aO,x0,y1,y2,y3,dK];apply K
   rw[show ky kind L n=(upd (iZ true n n) (n-1) (n-1) (iZ true n n (n-1) (n-1)+(l5 L 0 2:Int)),f9 L 0) by unfold ky;rw[if_neg (by omega),if_neg (by omega),if_pos hk]];refine⟨(aE (tm:=(j4 (jk::dq b::rN n::.one (.sl 48 0 0 n)::j16 (j16 (j16 (j16 (jk::jk::[]))))))) (l:=[(48,mxI 48 n n (upd (iZ true n n) (n-1) (n-1) (iZ true n n (n-1) (n-1)+(l5 L 0 2:Int))))]) ⟨rfl,trivial⟩ (by simp[wk])).trans ((bH 48 (cu rfl)).trans (aE (tm:=(j4 (jk::dq b::rN n::slI (mat n n (upd (iZ true n n) (n-1) (n-1) (iZ true n n (n-1) (n-1)+(l5 L 0 2:Int))))::j16 (j16 (j16 (j16 (jk::jk::[]))))))) (l:=[]) trivial (by
    simp[wk];exact⟨rfl,rfl,(iH (H:=Hm [(48,mxI 48 n n (upd (iZ true n n) (n-1) (n-1) (iZ true n n (n-1) (n-1)+(l5 L 0 2:Int))))]) (d:=48) (n:=n) (c:=n) (f:=upd (iZ true n n) (n-1) (n-1) (iZ true n n (n-1) (n-1)+(l5 L 0 2:Int))) rfl).symm⟩))),rfl⟩
  ·have hk:kind%8=6:=by omega
   rw[hk,show((6:Nat):Int)=6 from rfl];refine dC ?_;refine cP (aZ fun _ K=>?_);simp(disch:=omega) only[kd];apply K;refine cX rfl ?_;refine aZ fun _ K=>?_;simp(disch:=omega) only[kd];apply K
   refine cX rfl ?_;refine aZ fun _ K=>?_;simp(disch:=omega) only[kd];apply K
   refine cX rfl ?_;refine eY fun _ K=>?_;simp(disch:=omega) only[kd];apply K
   show eB _ _ _ _ _ _ _;refine cX rfl ?_;refine aZ fun _ K=>?_;simp(disch:=omega) only[kd];apply K
   refine cX rfl ?_;refine aZ fun _ K=>?_;simp(disch:=omega) only[kd];apply K
   refine cX rfl ?_;refine aZ fun _ K=>?_;simp(disch:=omega) only[kd];apply K
   refine gR rfl ?_;refine gS 2 cd9 [] [] (by kernel_rfl) (by rfl) (by rfl) fun _ K=>?_;simp only[kd,dq,aa,ab];apply K
   rw[show ky kind L n=(f5 L 0 9,j7 L 0 n) by unfold ky;rw[if_neg (by omega),if_neg (by omega),if_neg (by omega),if_pos hk]];refine⟨(aE (tm:=(j4 (jk::dq b::rN n::.one (.sl 66 0 0 n)::j16 (j16 (j16 (j16 (jk::jk::[]))))))) (l:=[(66,mxI 66 n n (f5 L 0 9))]) ⟨bU 0 66 n n _,trivial⟩ (by simp[wk])).trans ((bH 66 (cu rfl)).trans (aE (tm:=(j4 (jk::dq b::rN n::slI (mat n n (f5 L 0 9))::j16 (j16 (j16 (j16 (jk::jk::[]))))))) (l:=[]) trivial (by
    simp[wk];exact⟨rfl,rfl,(iH (H:=Hm [(66,mxI 66 n n (f5 L 0 9))]) (d:=66) (n:=n) (c:=n) (f:=f5 L 0 9) rfl).symm⟩))),rfl⟩
  have hk:kind%8=7:=by omega
  rw[hk,show((7:Nat):Int)=7 from rfl];refine dC ?_;refine cP (aZ fun _ K=>?_);simp(disch:=omega) only[kd];apply K;refine cX rfl ?_;refine aZ fun _ K=>?_;simp(disch:=omega) only[kd];apply K
  refine cX rfl ?_;refine aZ fun _ K=>?_;simp(disch:=omega) only[kd];apply K
  refine cX rfl ?_;refine eY fun _ K=>?_;simp(disch:=omega) only[kd];apply K
  show eB _ _ _ _ _ _ _;refine cX rfl ?_;refine aZ fun _ K=>?_;simp(disch:=omega) only[kd];apply K
  refine cX rfl ?_;refine aZ fun _ K=>?_;simp(disch:=omega) only[kd];apply K
  refine cX rfl ?_;refine aZ fun _ K=>?_;simp(disch:=omega) only[kd];apply K
  refine cX rfl ?_;refine gS 2 cd1 [] [] (by kernel_rfl) (by rfl) (by rfl) fun _ K=>?_;simp only[kd,dq,aa,ab];apply K
  rw[show ky kind L n=(f5 L 0 1,j7 L 0 n) by unfold ky;rw[if_neg (by omega),if_neg (by omega),if_neg (by omega),if_neg (by omega)]];refine⟨(aE (tm:=(j4 (jk::dq b::rN n::.one (.sl 23 0 0 n)::j16 (j16 (j16 (j16 (jk::jk::[]))))))) (l:=[(23,mxI 23 n n (f5 L 0 1))]) ⟨bU 0 23 n n _,trivial⟩ (by simp[wk])).trans ((bH 23 (cu rfl)).trans (aE (tm:=(j4 (jk::dq b::rN n::slI (mat n n (f5 L 0 1))::j16 (j16 (j16 (j16 (jk::jk::[]))))))) (l:=[]) trivial (by
   simp[wk];exact⟨rfl,rfl,(iH (H:=Hm [(23,mxI 23 n n (f5 L 0 1))]) (d:=23) (n:=n) (c:=n) (f:=f5 L 0 1) rfl).symm⟩))),rfl⟩
 generalize hrw:ky kind L n=rg at*
 obtain⟨f,p⟩:=rg;simp only at hraw hple⊢;have e5:lV kind L n=(open Classical in if GoodP n f then f else f5 L p 2):=by unfold lV;rw[hrw]
 by_cases hg:GoodP n f
 ·rw[if_pos hg]at e5;rw[e5];have c1:=Hv n f hn1 hn8 hraw.i64 true (by simp[hg]);refine cP (mb [⟨1,_,_,_,c1⟩] [] fun _ K=>?_);simp only[kd,slI,aa,dq];apply K;refine cX rfl (j9 ?_);show eB _ _ _ _ _ _ _;refine aZ fun _ K=>?_;simp only[kd];apply K
  refine m8 ⟨.inr rfl,aJ rfl ?_ rfl⟩;simp(disch:=omega) only[kd,Tryz.results40,slI]
 rw[if_neg hg]at e5;rw[e5];have c1:=Hv n f hn1 hn8 hraw.i64 false (by simp[hg]);have c2:=lf b L p n 2 hL hple hn8 (by omega) (by omega);rw[show((2:Nat):Int)=2 from rfl]at c2;refine cP (mb [⟨1,_,_,_,c1⟩] [] fun _ K=>?_);simp only[kd,slI,aa,dq];apply K;refine gR rfl ?_;refine qf 2 c2 [] [] (by kernel_rfl) (by rfl) (by rfl) fun _ K=>?_;simp only[kd,dq,aa];apply K
 refine eB.weak (aE (tm:=(j4 (.one (.sl 72 0 0 n)::j16 (j16 (j16 (j16 (j4 (jk::[])))))))) (l:=[(72,mxI 72 n n (f5 L p 2))]) ⟨bU 0 72 n n _,trivial⟩ (by simp[wk])) ?_;refine eB.weak ((bH 72 (cu rfl)).trans (aE (tm:=(j4 (slI (mat n n (f5 L p 2))::j16 (j16 (j16 (j16 (j4 (jk::[])))))))) (l:=[]) trivial (by
  simp[wk];exact(iH (H:=Hm [(72,mxI 72 n n (f5 L p 2))]) (d:=72) (n:=n) (c:=n) (f:=f5 L p 2) rfl).symm))) ?_
 refine m8 ⟨.inr rfl,aJ rfl ?_ rfl⟩;simp(disch:=omega) only[kd,Tryz.results40,slI]
theorem sC (n c:Nat) (f:FF) (hn1:1<=n) (hn:n<=16) (hc1:1<=c) (hc:c<=16) (hf: ∀i j:Nat,i<n->j<c->wR (f i j)):
  CallC Tryz.prog 44 [slM (mat n c f)] ⟨mxI 0 n c f,rB n true⟩:=by
 have hS:=rK (mat n c f);rw[iX (pi f hn1 hn hc1 hc),bf,jq f hn1]at hS;refine aI Tryz.func44 rfl (by kernel_rfl) ?_;rw[Tryz.ntmps44];refine aD fun _ K=>?_;simp only[kd,slM,ae];apply K
 refine aG [⟨1,_,_,_,hS⟩] [] fun _ K=>?_;simp only[kd,slM,aa];apply K
 refine aF (aD fun _ K=>?_);simp only[kd];apply K;refine aQ rfl (aM ?_);show bo _ _ _ _;refine aD fun _ K=>?_;simp(disch:=omega) only[kd,aa];apply K
 refine aF (aD fun _ K=>?_);simp only[kd,aa];apply K;refine aX (G:=jA n) (fun g=>⟨(slM (mat n c f)::j4 (.raw (.int .i64 (c:Int))::jk::.one (.sl 21 0 0 n)::j4 (j4 (j4 (jk::jk::jk::rN n::rN g.i::j16 (j16 (j4 (jk::jk::[])))))))),Hm [(21,kI 21 n c g.i (part f g.i 0))]⟩) (fun g=>n-g.i) ⟨0,by omega⟩ ?_ ?_
 ·refine aE ⟨?_,trivial⟩ ?_
  ·show[_]=_;simp[gh,mat]
  simp[wk]
 rintro⟨i,hi⟩;simp only;by_cases hm:i<n
 ·have hr:=bv c f hm;have k1:=qw (i:=i) (n:=n) 21 c hm;have k2:=jo (i:=i) (n:=n) 21 c hi;have k3:=bf i c (part f i 0);have k4:=np (i:=i) (n:=n) (c:=c) 21 (part f i 0) hm (fun j hj=>by unfold part;rw[if_neg (by omega)]);have k5:=qv (i:=i+1) (k:=i) (n:=n) 21 c (by omega);have k6:=jo (i:=i+1) (n:=n) 21 c (by omega);have k7:=cd (n:=i+1) c (part f i 0) (i:=i) (by omega);refine aD fun _ K=>?_;simp(disch:=omega) only[kd,slM];apply K
  refine bx rfl ?_;refine aF (aK ?_);refine aD fun _ K=>?_;simp only[kd];apply K
  refine aD fun _ K=>?_;simp(disch:=omega) only[kd,aa,ab,k1,ah,List.length_replicate,List.all_replicate,k3,Nat.reduceBEq];apply K
  refine bo.weak (aE (tm:=(slM (mat n c f)::j4 (.raw (.int .i64 (c:Int))::jk::.one (.sl 21 0 0 n)::rN i::j4 (j4 (j4 (jk::jk::rN n::rN i::j16 (j16 (j4 (jk::jk::[]))))))))) (l:=[(21,kI 21 n c (i+1) (part f i 0))]) ⟨?_,trivial⟩ (by simp[wk])) ?_
  ·first|exact k4|rfl
  refine aD fun _ K=>?_;simp(disch:=omega) only[kd,aa,slM,k5];apply K
  refine aX (G:=jA c) (fun g=>⟨(slM (mat n c f)::j4 (.raw (.int .i64 (c:Int))::jk::.one (.sl 21 0 0 n)::rN i::j4 (j4 (j4 (jk::jk::rN n::rN i::j4 (j4 (jk::jk::jk::rN c::rN g.i::j16 (j4 (j4 (jk::[])))))))))),Hm [(21,kI 21 n c (i+1) (part f i g.i))]⟩) (fun g=>c-g.i) ⟨0,by omega⟩ ?_ ?_
  ·refine aE ⟨rfl,trivial⟩ ?_;simp[wk]
  rintro⟨j,hj⟩;simp only;by_cases hm3:j<c
  ·have hjr:=aT (f i) hm3;have hz:=hf i j hm hm3;have cI:=Ks (f i j) (hz.sz (by omega));rw[rC,if_pos (show -9223372036854775808<=f i j/\f i j<=9223372036854775807 from hz)]at cI;have q7:=cd (n:=i+1) c (part f i j) (i:=i) (by omega);have q8:=aT (part f i j i) hm3;refine aD fun _ K=>?_;simp(disch:=omega) only[kd,slM];apply K
   refine bx rfl ?_;refine aF (aK ?_);refine aD fun _ K=>?_;simp only[kd];apply K
   refine aG [⟨7,_,_,_,cI⟩] [] fun _ K=>?_;simp(disch:=omega) only[kd,tZ,aa,hr,fR,hjr,fZ];apply K
   refine aF (aD fun _ K=>?_);simp only[kd];apply K;refine aQ rfl (aM ?_);show bo _ _ _ _;refine aL fun _ K=>?_;simp(disch:=omega) only[kd,aa,k5,q7,q8,dK];apply K
   show bo _ _ _ _;refine aL fun _ K=>?_;simp(disch:=omega) only[kd,aO];apply K
   refine⟨⟨j+1,by omega⟩,by simp only;omega,aE ⟨?_,trivial⟩ ?_⟩
   ·show _::_=_::_;rw[ch fun a b _ _=>ja f i j a b]
   simp[wk]
  have hjc:j=c:=by omega
  subst hjc;refine aD fun _ K=>?_;simp(disch:=omega) only[kd,slM];apply K
  refine bG rfl ?_;show bo _ _ _ _;refine aL fun _ K=>?_;simp(disch:=omega) only[kd,aO];apply K
  refine⟨⟨i+1,by omega⟩,by simp only;omega,aE ⟨?_,trivial⟩ ?_⟩
  ·show _::_=_::_;rw[ch fun a b _ hb=>ku f i a b hb]
  simp[wk]
 have hin:i=n:=by omega
 subst hin;refine aD fun _ K=>?_;simp(disch:=omega) only[kd,slM];apply K
 refine bG rfl ?_;show bo _ _ _ _;have e:kI 21 i c i (part f i 0)=mxI 21 i c f:=by
  rw[oA];show _::_=_::_;rw[ch fun a b ha _=>kt f a b ha]
 rw[e];refine aD fun _ K=>?_;simp only[kd,aa];apply K
 refine aH ⟨.inr rfl,I2 (d:=21) rfl ?_ (by decide)⟩;simp(disch:=omega) only[kd,Tryz.results44]
theorem Gs (n c:Nat) (f:FF) (hn1:1<=n) (hn:n<=16) (hc1:1<=c) (hc:c<=16) (hf: ∀i j:Nat,i<n->j<c->wR (f i j)):
  CallC Tryz.prog 44 [slM (mat n c f)] ⟨[],.tup [(false,[.p (.sl (ls (fR fI) (mat n c f)))]),(false,[.p (.raw (.bool true))])]⟩:=
 (sC n c f hn1 hn hc1 hc hf).fzT (by simp[isPure])
structure P6 (N B Z n:Nat) (f0 h T:FF) where
 f:Nat->Nat->Int
 t:Nat->Nat->Int
 s:Nat
 adds:Nat
 inv:RedI N B Z n f0 f t s adds
 rch:Rch n f t h T
theorem Bx (a b:Nat):Sz (idF a b) 1:=by unfold idF;split<;>exact mT (by decide) (by omega)
theorem LZ {N B S Z n:Nat} {f0 f t h T:FF} (kb:AB N B S Z) (hn1:1<=n) (hn:n<=N) (hd:dk f0 n<=10000) (hr:Rch n f t h T): ∀s adds,RedI N B Z n f0 f t s adds->RedR h n:=by
 induction hr with
 |done f t hc=>exact fun s adds hI=>hI.red hn1 hd hc
 |step f t h T c hc _ ih=>
  intro s adds hI;cases c with
  |add i j=>exact ih _ _ (hI.add kb hn hc).1
  |swp m=>exact ih _ _ (hI.swap kb hn hc)
theorem Fh {N B S Z n:Nat} {f0 f t:FF} {s adds:Nat} (kb:AB N B S Z) (h:RedI N B Z n f0 f t s adds) (hn:n<=N) {c:Ch} (hc:scanF f n=some c): ∀a b,a<n->b<n->Sz (M2 f c a b) 500:=fun a b ha hb=>by
 obtain⟨hF,hi⟩:=gY hc;cases c with
 |add i j=>
  have hi:i<n:=hi;show Sz (GG i j (cF f i j) a b) 500;rcases qQ idF j i (cF f i j) a b with e|e
  ·unfold GG;rw[e];exact(h.szc kb hn hi hF.1).mono (by have:=kb.z4;omega)
  unfold GG;rw[e];exact(Bx a b).mono (by omega)
 |swp m=>exact(Bx _ b).mono (by omega)
theorem NS {n:Nat} (f:FF) {c:Ch} (hc:scanF f n=some c):mat n n (cngF n f (M2 f c))=mat n n (Ql f c):=by
 obtain⟨hF,hi⟩:=gY hc;refine dE fun a b ha hb=>?_
 cases c with
 |add i j=>exact KR (by have:=hF.1;omega) (by have:i<n:=hi;have:=hF.1;omega) f a b ha hb
 |swp m=>exact NU hi f a b ha hb
structure Eh (N B Z n:Nat) (f:FF):Prop where
 good:GoodP n f
 sz: ∀i j,i<n->j<n->Sz (f i j) 400
 st:RedI N B Z n f f idF 0 0
theorem Eh.dk {N B S Z n:Nat} {f:FF} (kb:AB N B S Z) (k:Eh N B Z n f) (hn1:1<=n):dk f n<=10000:=by
 obtain⟨hs,hp,hd⟩:=k.good;have:=(uc hp (n-1) (by omega)).2;rw[show n-1+1=n by omega]at this;omega
theorem Eh.ex {N B S Z n:Nat} {f:FF} (kb:AB N B S Z) (k:Eh N B Z n f) (hn1:1<=n) (hn:n<=N): ∃h T,RedR h n/\Rch n f idF h T:=by
 obtain⟨h,T,hr⟩:=oL (f0:=f) kb hn _ f idF 0 0 (Nat.le_refl _) k.st;exact⟨h,T,LZ kb hn1 hn (k.dk kb hn1) hr 0 0 k.st,hr⟩
theorem Nc {n:Nat} {f:FF} (hn1:1<=n) (hn:n<=8) (hb:AI f) (hg:GoodP n f):Eh 8 bB 41 n f:=
 ⟨hg,fun i j _ _=>(hb.i64 i j).sz (by omega),RedI.start hn1 hn hg.1 hg.2.1 (fun a b=>by have:=hb a b;omega) (fun a b _ _=>Bx a b)⟩
theorem Ei {N B S Z:Nat} (kb:AB N B S Z) (n:Nat) (f h T:FF) (hn1:1<=n) (hn:n<=N) (k:Eh N B Z n f) (hred:RedR h n) (hr:Rch n f idF h T):
  CallC Tryz.prog 25 [slM (mat n n f)] ⟨mxI 0 n n h,.tup [(false,[.sl 0 0 0 n]),(false,[.p (.sl (ls (fR fZ) (mat n n T)))]),(false,[.p (.raw (.int .i64 0))])]⟩:=by
 have hn8:n<=8:=az hn kb.n8;have hst:=k.st;obtain⟨hs,hp,hd⟩:=k.good;have hsz: ∀i j,i<n->j<n->Sz (f i j) 1024:=fun i j hi hj=>(k.sz i j hi hj).mono (by omega)
 obtain⟨e,he,c1⟩:=kO n n f hn1 (by omega) hn1 (by omega) hsz;have he0:e=0:=he.2 ⟨rfl,hn8,hs,hp⟩;subst he0;have c2:=Ak n f hn1 (by omega) hsz;rw[decide_eq_true hd]at c2;have c3:=Gj n n f (by omega) hn1 (by omega) (fun i j hi hj=>(hsz i j hi hj).mono (by omega));have c4:=sk n hn1 (by omega);have hml:=bf n n f;refine aI Tryz.func25 rfl (by kernel_rfl) ?_;rw[Tryz.ntmps25];refine aD fun _ K=>?_;simp only[kd,aa,slM,ae];apply K
 refine aF (aG [⟨1,_,_,_,c1⟩] [] fun _ K=>?_);simp only[kd,slM,aa];apply K;refine aD fun _ K=>?_;simp(disch:=omega) only[kd];apply K
 refine aQ rfl (aM ?_);show bo _ _ _ _;refine aF (aG [⟨1,_,_,_,c2⟩] [] fun _ K=>?_);simp only[kd,slM,aa];apply K;refine aQ rfl (aM ?_);show bo _ _ _ _;refine aG [⟨1,_,_,_,c3⟩] [] fun _ K=>?_;simp only[kd,slM,aa];apply K
 refine aG [⟨2,_,_,_,c4⟩] [] fun _ K=>?_;simp only[kd,aa,hml,ab];apply K
 refine aX (G:=P6 N B Z n f h T) (fun g=>⟨(j4 (jk::jk::slM (mat n n g.f)::slM (mat n n g.t)::j16 (j16 (j4 (j4 (jk::[])))))),Hm []⟩) (fun g=>M6 S n g.f g.s) ⟨f,idF,0,0,hst,hr⟩ ?_ ?_
 ·refine(aE (tm:=(j4 (jk::jk::.one (.sl 22 0 0 n)::.one (.sl 26 0 0 n)::j16 (j16 (j4 (j4 (jk::[]))))))) (l:=[(22,iy 22 n n f),(26,iy 26 n n idF)]) ⟨fP 0 22 n n _,fP 0 26 n n _,trivial⟩ (by simp[wk])).trans ((bH 22 (jH rfl)).trans ((aE (tm:=(j4 (jk::jk::slM (mat n n f)::.one (.sl 26 0 0 n)::j16 (j16 (j4 (j4 (jk::[]))))))) (l:=[(26,iy 26 n n idF)]) ⟨rfl,trivial⟩ (by
   simp[wk];exact⟨(M5 (H:=Hm [(22,iy 22 n n f),(26,iy 26 n n idF)]) (d:=22) (n:=n) (c:=n) (f:=f) rfl).symm,rfl⟩)).trans ((bH 26 (jH rfl)).trans (aE trivial ?_))))
  simp[wk];exact⟨rfl,(M5 (H:=Hm [(26,iy 26 n n idF)]) (d:=26) (n:=n) (c:=n) (f:=idF) rfl).symm⟩
 rintro⟨g,t,s,adds,hI,hrc⟩;simp only;have cs:=OI n g hn1 hn8 hI.dfn.pos (fun i j hi hj=>(hI.szf kb hn hi hj).mono (by omega));cases hc:scanF g n with
 |none=>
  obtain⟨rfl,rfl⟩:g=h/\t=T:=by
   cases hrc with
   |done _ _ _=>exact⟨rfl,rfl⟩
   |step _ _ _ _ c hc' _=>rw[hc]at hc';cases hc'
  have hes:=i5 hn1 hn8 hred;have ct:=sC n n g hn1 (by omega) hn1 (by omega) (fun i j hi hj=>by have:=hes i hi j hj;exact⟨by omega,by omega⟩);rw[hc]at cs;refine aK ?_;refine aG [⟨1,_,_,_,cs⟩] [] fun _ K=>?_;simp only[kd,slM,O4,aa];apply K
  refine aF (aD fun _ K=>?_);simp only[kd];apply K;refine aU rfl ?_;refine aG [⟨1,_,_,_,ct⟩] [] fun _ K=>?_;simp only[kd,slM,rB,aa];apply K
  refine bo.weak (aE (tm:=(j4 (jk::jk::jk::slM (mat n n t)::jk::jk::jk::.one (.sl 38 0 0 n)::j16 (j16 (j4 (jk::[])))))) (l:=[(38,mxI 38 n n g)]) ⟨bU 0 38 _ _ _,trivial⟩ (by simp[wk])) ?_;refine aD fun _ K=>?_;simp only[kd,aa,slM];apply K
  refine aH ⟨.inr rfl,_,ca.refl _,?_⟩;refine⟨.tup [(false,[.sl 38 0 0 n]),(false,[.p (.sl (ls (fR fZ) (mat n n t)))]),(false,[.p (.raw (.int .i64 0))])],38,?_,pP (by simp[gZ,dH]) (by decide),(bU 38 0 _ _ _).symm,rfl⟩;simp(disch:=omega) only[kd,Tryz.results25]
 |some c=>
  have hrc':Rch n (Ql g c) (fJ n t (M2 g c)) h T:=by
   cases hrc with
   |done _ _ hc'=>rw[hc]at hc';cases hc'
   |step _ _ _ _ c' hc' hr'=>
    rw[hc]at hc';injection hc' with hc'
    subst hc';exact hr'
  rw[hc]at cs;have hch:=Fh kb hI hn hc;have ha:=hI.adds_le kb hn;have cc:=qX n g (M2 g c) hn1 (by omega) (fun i j hi hj=>(hI.szf kb hn hi hj).mono (by omega)) (fun i j hi hj=>(hch i j hi hj).mono (by omega));rw[NS g hc]at cc;have cp:=mW n n n t (M2 g c) hn1 (by omega) hn1 (by omega) hn1 (by omega) (fun i j hi hj=>(hI.szt i j hi hj).mono (az (Nat.add_le_add_left (Nat.mul_le_mul_left (Z+4) ha) 1) (by have:=kb.sz;omega))) (fun i j hi hj=>(hch i j hi hj).mono (by omega));refine aK ?_;refine aG [⟨1,_,_,_,cs⟩] [] fun _ K=>?_;simp only[kd,slM,O4,aa];apply K
  refine aF (aD fun _ K=>?_);simp only[kd];apply K;refine aQ rfl (aM ?_);show bo _ _ _ _;refine j8 [⟨2,_,_,_,cc⟩,⟨5,_,_,_,cp⟩] [] fun _ K=>?_;simp only[kd,slM,aa,Nat.reduceBEq];apply K
  cases c with
  |add i j=>
   refine⟨⟨_,_,s,adds+1,(hI.add kb hn hc).1,hrc'⟩,hI.mu_add kb hn hc,aE trivial ?_⟩;simp[wk];exact⟨rfl,rfl⟩
  |swp m=>
   refine⟨⟨_,_,s+1,adds,hI.swap kb hn hc,hrc'⟩,hI.mu_swap kb hn hc,aE trivial ?_⟩;simp[wk];exact⟨rfl,rfl⟩
theorem xp {f:FF} (h0: ∀a b,a≠b->f a b=0) (h1: ∀a,0<f a a): ∀k,(0<dk f k/\ ∀t,t<k->0<dk f (t+1))/\ ∀a b,k<=a->k<=b->bk f k a b=dk f k*f a b
 |0=>⟨⟨by rw[dD];omega,fun t ht=>by omega⟩,fun a b _ _=>by rw[dM,dD,Int.one_mul]⟩
 |k+1=>by
  obtain⟨⟨p0,p1⟩,p2⟩:=xp h0 h1 k;have e:dk f (k+1)=dk f k*f k k:=by rw[bY,p2 k k (by omega) (by omega)]
  have hpos:0<dk f (k+1):=by rw[e];exact Int.mul_pos p0 (h1 k)
  refine⟨⟨hpos,fun t ht=>?_⟩,fun a b ha hb=>?_⟩
  ·by_cases et:t=k
   ·subst et;exact hpos
   exact p1 t (by omega)
  have s:=sylv f k (fun t ht=>by have:=p1 t ht;omega) a b;rw[p2 a b (by omega) (by omega),p2 a k (by omega) (by omega),h0 a k (by omega),Int.mul_zero,Int.zero_mul,Int.sub_zero]at s;refine Int.eq_of_mul_eq_mul_left (show dk f k≠0 by omega) ?_;rw[s];exact Int.mul_left_comm _ _ _
theorem Df {f:FF} (h0: ∀a b,a≠b->f a b=0) (h1: ∀a,0<f a a) (h2: ∀a,f a a<=2): ∀k,dk f k<=2^k
 |0=>by rw[dD];decide
 |k+1=>by
  obtain⟨⟨p0,_⟩,p2⟩:=xp h0 h1 k;rw[bY,p2 k k (by omega) (by omega),Int.pow_succ];have ih:=Df h0 h1 h2 k;exact Int.mul_le_mul ih (h2 k) (Int.le_of_lt (h1 k)) (Int.le_trans (Int.le_of_lt p0) ih)
theorem G6 (L:List Int) (p n:Nat) (hn1:1<=n) (hn:n<=8):GoodP n (f5 L p 2):=by
 have h0: ∀a b,a≠b->f5 L p 2 a b=0:=fun a b h=>by unfold f5;rw[if_neg h]
 have h1: ∀a,0<f5 L p 2 a a:=fun a=>by unfold f5;rw[if_pos rfl];omega
 have h2: ∀a,f5 L p 2 a a<=2:=fun a=>by
  unfold f5;rw[if_pos rfl];have:=kW (n:=2) L (j7 L p a) (by omega);omega
 have hpos: ∀k,0<dk (f5 L p 2) (k+1):=fun k=>(xp h0 h1 (k+1)).1.1
 have hdet: ∀k,detF (k+1) (f5 L p 2)=dk (f5 L p 2) (k+1):=fun k=>rM fun t _=>by have:=hpos t;omega
 refine⟨fun a _ b _=>?_,fun k _=>by rw[hdet];exact hpos k,?_⟩
 ·by_cases e:a=b
  ·rw[e]
  rw[h0 a b e,h0 b a (Ne.symm e)]
 have e:=hdet (n-1);rw[show n-1+1=n by omega]at e;rw[e];have h3:=Df h0 h1 h2 n;have h4:(2:Int)^n<=2^8:=by
  have:=Nat.pow_le_pow_right (show 0<2 by omega) hn
  exact_mod_cast this
 have h5:(2:Int)^8=256:=by decide
 omega
theorem tp (kind:Nat) (L:List Int) (n:Nat) (hn1:1<=n) (hn:n<=8):GoodP n (lV kind L n)/\AI (lV kind L n):=by
 unfold lV;split
 ·rename_i h;exact⟨h,DT kind L n⟩
 exact⟨G6 L _ n hn1 hn,xo (by omega) (by omega)⟩
theorem Kr (dim kind:Nat) (L B:List Int) (most n:Nat) (h T:FF) (hL:I8 L) (hdim:dim<=255) (hkind:kind<=255) (hm1:1<=most) (hm8:most<=8) (hn:n=1+dim%most) (hr:RedR h n) (hT:Rch n (lV kind L n) idF h T):
  CallC Tryz.prog 16 [tL dim kind L B,.raw (.int .i64 (most:Int))] ⟨mxI 0 n n h,.one (.sl 0 0 0 n)⟩:=by
 have hn1:1<=n:=by omega
 have hn8:n<=8:=by have:=Nat.mod_lt dim (show 0<most by omega);omega
 have c1:=Nv dim kind L B most n hL hdim hkind hm1 hm8 hn;obtain⟨hg,hb⟩:=tp kind L n hn1 hn8;have c3:=Ei Qj n (lV kind L n) h T hn1 hn8 (Nc hn1 hn8 hb hg) hr hT;have c2:=AL n n (lV kind L n) hn1 (by omega) hn1 (by omega) (fun i j _ _=>hb.i64 i j);generalize lV kind L n=gg at*
 refine aI Tryz.func16 rfl (by kernel_rfl) ?_;rw[Tryz.ntmps16];refine aD fun _ K=>?_;simp(disch:=omega) only[kd,tL,aa,ae];apply K
 refine aG [⟨2,_,_,_,c1⟩,⟨3,_,_,_,c2⟩,⟨4,_,_,_,c3⟩] [] fun _ K=>?_;simp only[kd,tL,slI,slM,aa,Nat.reduceBEq,ab];apply K
 refine bo.weak (aE (tm:=(j4 (jk::.one (.sl 13 0 0 n)::j4 (j4 (j4 ([])))))) (l:=[(13,mxI 13 n n h)]) ⟨bU 0 13 _ _ _,trivial⟩ (by simp[wk])) ?_;refine aD fun _ K=>?_;simp only[kd];apply K
 refine aH ⟨.inr rfl,_,ca.refl _,?_⟩;refine⟨.one (.sl 13 0 0 n),13,?_,rfl,(bU 13 0 _ _ _).symm,rfl⟩;simp(disch:=omega) only[kd,Tryz.results16]
theorem Kq (dim kind:Nat) (L B:List Int) (most n:Nat) (h T:FF) (hL:I8 L) (hdim:dim<=255) (hkind:kind<=255) (hm1:1<=most) (hm8:most<=8) (hn:n=1+dim%most) (hr:RedR h n) (hT:Rch n (lV kind L n) idF h T):
  CallC Tryz.prog 16 [tL dim kind L B,.raw (.int .i64 (most:Int))] ⟨[],slI (mat n n h)⟩:=
 (Kr dim kind L B most n h T hL hdim hkind hm1 hm8 hn hr hT).fzI
theorem Nu (kind:Nat) (L:List Int) {n:Nat} (hn1:1<=n) (hn8:n<=8): ∃h T,RedR h n/\Rch n (lV kind L n) idF h T:=by
 obtain⟨hg,hb⟩:=tp kind L n hn1 hn8;exact(Nc hn1 hn8 hb hg).ex Qj hn1 hn8
theorem Gk (dim kind:Nat) (L B:List Int) (most n:Nat) (hL:I8 L) (hdim:dim<=255) (hkind:kind<=255) (hm1:1<=most) (hm8:most<=8) (hn:n=1+dim%most):
  ∃h,RedR h n/\CallC Tryz.prog 16 [tL dim kind L B,.raw (.int .i64 (most:Int))] ⟨[],slI (mat n n h)⟩:=by
 obtain⟨h,T,h1,h2⟩:=Nu kind L (n:=n) (by omega) (by have:=Nat.mod_lt dim (show 0<most by omega);omega);exact⟨h,h1,Kq dim kind L B most n h T hL hdim hkind hm1 hm8 hn h1 h2⟩
theorem Nz {h:FF} {n:Nat} (hn1:1<=n) (hn:n<=8) (hr:RedR h n):MI (mat n n h):=fun r hr' z hz=>by
 obtain⟨i,hi,rfl⟩:=List.mem_map.1 hr';obtain⟨j,hj,rfl⟩:=List.mem_map.1 hz;have:=i5 hn1 hn hr i (List.mem_range.1 hi) j (List.mem_range.1 hj);exact⟨by omega,by omega⟩
section
open Go.ChangeShapes Go.WideShapes Go.ChangeAt Go.RowKit
theorem L1 {w:World} {l:List Int} {A:Option Addr} {c:Nat} (hl:l.length<=c) (hm:l.length<=9223372036854775807) (h:RdI .i8 w A l):cq (fun _=>False) w (.sl (ls f8 l)) (.slice A l.length c):=by
 cases l with
 |nil=>exact cq.nil _ _
 |cons z0 l0=>
  obtain⟨b,off,rfl,hc⟩:=h (by simp);have h0:=hc 0 (.int .i8 z0) (by simp);have hb:b<w.heap.size:=nd h0;have:=cq.sl (X:=fun _=>False) (w:=w) b off 1 c (ls f8 (z0::l0)) (fun i _=> .int .i8 ((z0::l0).getD i 0)) (fun h=>h) hb (fun e he=>by
   obtain⟨z,_,rfl⟩:=List.mem_map.1 he;rfl) (by rw[eH];exact hl) (by rw[eH];exact hm) (fun i e j x he hx=>by
   rw[gF]at he;obtain⟨z,hz,rfl⟩:=Option.map_eq_some_iff.1 he;cases j with
   |succ j=>simp[f8]at hx
   |zero=>
    have:=hc i (.int .i8 z) (by rw[List.getElem?_map,hz];rfl);simp only[Nat.mul_one,Nat.add_zero,List.getD_eq_getElem?_getD,hz,Option.getD_some];exact this) (fun i e j x he hx=>by
   rw[gF]at he;obtain⟨z,hz,rfl⟩:=Option.map_eq_some_iff.1 he;cases j with
   |succ j=>simp[f8]at hx
   |zero=>
    simp[f8]at hx;subst hx;simp only[List.getD_eq_getElem?_getD,hz,Option.getD_some];exact cq.raw _ rfl)
  rw[eH]at this;exact this
theorem lF {H:Type} {enc:TypeId×Value->H} {P:Program} {W:World} {base:Nat} {held:Bool} {t e:TypeId} {n:Nat} {v:Value} {y:DataW H×List MemPlace}
  (ht:P.underlying t=some (.slice e)) (he:P.underlying e=some (.int .i8)) (hc:P.cellsOf e=1) (h:DataW.trod enc P W base (fun _=>true) held n t [v]=some y):
  ∃L:List Int,cq (fun _=>False) W (.sl (ls f8 L)) v/\I8 L:=by
 rcases DataW.trod_slice ht h with⟨hcs,_⟩|⟨x,l,c,_,_,_,_,hcs,_⟩
 ·simp at hcs;subst hcs;exact⟨[],cq.nil _ _,fun z hz=>by simp at hz⟩
 simp at hcs;subst hcs;obtain⟨zs,g1,g2,g3,g4,g5,_⟩:=IJ (enc:=enc) (base:=base) (held:=held) (d:=y.1) (p:=y.2) ht he hc ⟨n,by simpa[Value.cells] using h⟩;refine⟨zs,?_,fun z hz=>Ay (g5 z hz)⟩;rw[g1];unfold maxLen at g3;exact L1 (by omega) (by omega) g4
theorem lG {H:Type} {enc:TypeId×Value->H} {P:Program} {W:World} {base:Nat} {held:Bool} {t:TypeId} {n:Nat} {v:Value} {y:DataW H×List MemPlace}
  (ht:P.underlying t=some (.int .u8)) (h:DataW.trod enc P W base (fun _=>true) held n t [v]=some y): ∃m:Nat,v= .int .u8 (m:Int)/\m<=255:=by
 obtain⟨m,hv,_,hw⟩:=DataW.trod_int ht h;have:=uU hw;refine⟨m.toNat,?_,by omega⟩;simp at hv;rw[hv]
 congr 1
 omega
theorem Nd {w:World} {d k:Nat} {L B:List Int} {v2 v3:Value} (h2:cq (fun _=>False) w (.sl (ls f8 L)) v2) (h3:cq (fun _=>False) w (.sl (ls f8 B)) v3):
  (tL d k L B).rel (fun _ _=>none) (fun _=>[]) (fun _=>False) w (.agg #[.int .u8 (d:Int),.int .u8 (k:Int),v2,v3]):=by
 refine⟨#[.int .u8 (d:Int),.int .u8 (k:Int),v2,v3],rfl,rfl,fun j x hx=>?_⟩
 match j,hx with
 |0,hx=>simp at hx;subst hx;exact⟨_,rfl,rfl,cq.raw _ rfl⟩
 |1,hx=>simp at hx;subst hx;exact⟨_,rfl,rfl,cq.raw _ rfl⟩
 |2,hx=>simp at hx;subst hx;exact⟨_,rfl,h2.one,h2⟩
 |3,hx=>simp at hx;subst hx;exact⟨_,rfl,h3.one,h3⟩
 |j+4,hx=>simp at hx
theorem M1 {w:World}: ∀{ts:List TV} {vs:List Value},ts.length=vs.length->(∀(j:Nat) t v,ts[j]?=some t->vs[j]?=some v->t.rel (fun _ _=>none) (fun _=>[]) (fun _=>False) w v)->
  ∀(j:Nat) t,ts[j]?=some t-> ∃v:Value,vs.toArray[j]?=some v/\t.rel (fun _ _=>none) (fun _=>[]) (fun _=>False) w v:=fun{ts vs} hl h j t hj=>by
 have hlt:=(List.getElem?_eq_some_iff.1 hj).1;obtain⟨v,hv⟩: ∃v,vs[j]?=some v:=⟨_,List.getElem?_eq_getElem (by omega)⟩;exact⟨v,by simpa using hv,h j t v hj hv⟩
end
def fl (c:Nat) (g:FF):Nat->Int:=fun k=>g (k/c) (k%c)
theorem Pp {c:Nat} (g:FF) {i j:Nat} (hj:j<c):fl c g (i*c+j)=g i j:=by
 unfold fl;have h:=xq (i:=i) (j:=j) (sz:=c) hj;rw[h.1,h.2]
theorem pe {n c:Nat} {g g':FF} (h: ∀a b,a<n->b<c->g a b=g' a b):bA (n*c) (fl c g)=bA (n*c) (fl c g'):=eK fun k hk=>by
 have hc:0<c:=by
  rcases Nat.eq_zero_or_pos c with h|h
  ·subst h;simp at hk
  exact h
 exact h _ _ (Nat.div_lt_of_lt_mul (by rw[Nat.mul_comm];exact hk)) (Nat.mod_lt _ hc)
theorem Hp {n c i j:Nat} (g:FF) {v:Int} (hi:i<n) (hj:j<c):(bA (n*c) (fl c g)).set (i*c+j) v=bA (n*c) (fl c (upd g i j v)):=by
 rw[pN];refine eK fun k hk=>?_
 have hc:0<c:=by omega
 unfold fl upd;by_cases h:k=i*c+j
 ·subst h;have h:=xq (i:=i) (j:=j) (sz:=c) hj;rw[h.1,h.2];simp
 rw[if_neg h];by_cases h1:k/c=i
 ·have h2:k%c≠j:=fun hh=>h (by
   have:=Nat.div_add_mod k c;rw[h1,hh,Nat.mul_comm]at this;exact this.symm)
  rw[if_pos h1];show _=if k%c=j then v else g i (k%c)
  rw[if_neg h2,h1]
 rw[if_neg h1]
theorem DC (l:List Int) (k:Nat) (v:Int):(lc fZ l).set k [.p (.raw (.bool (decide (v<0)))),.p (.sl (ls fU (aP v.natAbs)))]=lc fZ (l.set k v):=by
 rw[<- xB];rfl
def Cw (d n c i:Nat):List (List AV):=(List.range n).map fun k=>if k<i then[.sl d 1 (k*c) c]else[.p (.sl [])]
def yb (d n c i:Nat) (g:FF):List OObj:=[⟨84,1,Cw d n c i⟩,⟨42,2,lc fZ (bA (n*c) (fl c g))⟩]
theorem pW (d n c i:Nat):(Cw d n c i).length=n:=by simp[Cw]
theorem jP {d n c i k:Nat} (h:k<n):(Cw d n c i)[k]?=some (if k<i then[.sl d 1 (k*c) c]else[.p (.sl [])]):=by
 unfold Cw;rw[List.getElem?_map,List.getElem?_range h];rfl
theorem D6 {d n c i:Nat}:(Cw d n c i).set i [.sl d 1 (i*c) c]=Cw d n c (i+1):=by
 apply List.ext_getElem?;intro k;by_cases hk:k<n
 ·by_cases h:k=i
  ·subst h;rw[List.getElem?_set_self (by rw[pW];exact hk),jP hk,if_pos (Nat.lt_succ_self k)]
  rw[List.getElem?_set_ne (Ne.symm h),jP hk,jP hk];by_cases h2:k<i
  ·rw[if_pos h2,if_pos (by omega)]
  rw[if_neg h2,if_neg (by omega)]
 rw[aq (by rw[List.length_set,pW];omega),aq (by rw[pW];omega)]
theorem As (d n c:Nat):([⟨84,1,ae n [.raw (.slice none 0 0)]⟩]:List OObj).map zO=[⟨84,1,Cw d n c 0⟩]:=by
 simp[zO,Cw,AH,CI,List.map_const']
theorem D8 (n c:Nat) (g:FF):([⟨42,2,ae (n*c) [.raw (.bool false),.raw (.slice none 0 0)]⟩]:List OObj).map zO=[⟨42,2,lc fZ (bA (n*c) (fl c (part g 0 0)))⟩]:=by
 have e2:bA (n*c) (fl c (part g 0 0))=ae (n*c) 0:=by
  apply List.ext_getElem?;intro b;by_cases hb:b<n*c
  ·rw[aT _ hb,List.getElem?_replicate,if_pos hb];simp[fl,part]
  rw[aq (by rw[bs];omega),aq (by simp;omega)]
 simp[e2,zO,lc,fZ,AH,CI,cy,ls]
theorem Ar (ty d n c:Nat):pA ⟨ty,1,Cw d n c 0⟩:=fun e he x hx=>by
 simp only[Cw,ak]at he;obtain⟨k,_,rfl⟩:=he;simp at hx;subst hx;rfl
theorem D7 {H:OH} {d n c i:Nat} {g:FF} (h:H d=yb d n c i g):u5 H d:=fun r o ho e he x hx=>by
 rw[h]at ho
 match r,ho with
 |0,ho=>
  simp[yb]at ho;subst ho;simp only[Cw,ak]at he;obtain⟨k,_,rfl⟩:=he;split at hx
  ·simp at hx;subst hx;exact .inr ⟨1,_,_,⟨42,2,lc fZ (bA (n*c) (fl c g))⟩,rfl,by rw[h];rfl,d7 _ _ _⟩
  simp at hx;subst hx;exact .inl rfl
 |1,ho=>
  simp[yb]at ho;subst ho;exact .inl (d7 _ _ _ e he x hx)
 |r+2,ho=>simp[yb]at ho
theorem FI {n c i:Nat} (g:FF) (hi:i<n):((bA (n*c) (fl c g)).take (i*c+c)).drop (i*c)=bA c (g i):=by
 have hk:i*c+c<=n*c:=by
  have:=Nat.mul_le_mul_right c hi;rw[Nat.succ_mul]at this;exact this
 apply List.ext_getElem?;intro j;rw[List.getElem?_drop,List.getElem?_take];by_cases hj:j<c
 ·rw[if_pos (by omega),aT _ (by omega),Pp g hj,aT _ hj]
 rw[if_neg (by omega),aq (by rw[bs];omega)]
theorem JF {H:OH} {n c:Nat} {g:FF} (_hc:1<=c) (h:H 5016=yb 5016 n c n g):gC H 5016 (.one (.sl 5016 0 0 n))= .one (.p (.sl (ls (fR fZ) (mat n c g)))):=by
 have h0:(H 5016)[0]?=some ⟨84,1,Cw 5016 n c n⟩:=by rw[h];rfl
 have h1:(H 5016)[1]?=some ⟨42,2,lc fZ (bA (n*c) (fl c g))⟩:=by rw[h];rfl
 simp only[gC,fb,if_true,h0]
 congr 3
 rw[Nat.zero_add,List.drop_zero,List.take_of_length_le (by rw[pW];exact Nat.le_refl _)];apply List.ext_getElem?;intro k;rw[List.getElem?_map,gF];by_cases hk:k<n
 ·rw[jP hk,if_pos hk,bv c g hk];simp only[Option.map_some,List.map_cons,List.map_nil,jE,h1,fO,xy,FI g hk,rS];rfl
 rw[aq (by rw[pW];omega),aq (by rw[bf];omega)];rfl
theorem Mt (fu:FuncId) (cs1:List PV) (n c:Nat) (g:FF) (hn1:1<=n) (hn:n<=16) (hc1:1<=c) (hc:c<=16)
  (hf: ∀i j,i<n->j<c->CallC Tryz.prog fu [.raw (.int .i64 (i:Int)),.raw (.int .i64 (j:Int)),.one (.p (.ptr cs1))] ⟨[],tZ (g i j)⟩):
  CallC Tryz.prog 146 [.raw (.int .i64 (n:Int)),.raw (.int .i64 (c:Int)),.fn fu [.p (.ptr cs1)]] ⟨[],slM (mat n c g)⟩:=by
 have hN:n*c<=256:=az (Nat.mul_le_mul hn hc) (by omega);have e0:IntKind.i64.wrap ((n:Int)*(c:Int))=((n*c:Nat):Int):=by rw[<- Int.natCast_mul];exact aO (by omega) (by omega)
 refine aI Tryz.func146 rfl (by kernel_rfl) ?_;rw[Tryz.ntmps146];refine aD fun _ K=>?_;simp only[kd,aa,ae];apply K
 refine aD fun _ K=>?_;simp(disch:=omega) only[kd,aa,e0];apply K
 refine aD fun _ K=>?_;simp(disch:=omega) only[kd,aa,ab];apply K
 refine bo.weak ((gy 14).trans ((gy 16).trans ((vq 16 14 5016 (oa:=⟨84,1,Cw 5016 n c 0⟩) (oe:=⟨42,2,lc fZ (bA (n*c) (fl c (part g 0 0)))⟩) ?_ ?_ rfl (Ar _ _ _ _) (d7 _ _ _) (by omega) (by omega) (by omega)).trans (aE (tm:=(jk::rN c::.fn fu [.p (.ptr cs1)]::j4 (.one (.sl 5016 1 0 (n*c))::.one (.sl 5016 0 0 n)::j16 (j16 (j16 (jk::jk::[])))))) (l:=[(5016,yb 5016 n c 0 (part g 0 0))]) ⟨rfl,trivial⟩ ?_)))) ?_
 ·exact As 5016 n c
 ·exact D8 n c g
 ·simp[wk,Lh,qu]
 simp only[yb];refine aF (aD fun _ K=>?_);simp only[kd,aa];apply K;refine aX (G:=jA n) (fun q=>⟨(jk::rN c::.fn fu [.p (.ptr cs1)]::j4 (.one (.sl 5016 1 0 (n*c))::.one (.sl 5016 0 0 n)::j4 (j4 (.one (.sl 5016 0 0 n)::rN n::rN q.i::j16 (j16 (j4 (jk::jk::jk::[]))))))),Hm [(5016,yb 5016 n c q.i (part g q.i 0))]⟩) (fun q=>n-q.i) ⟨0,by omega⟩ ?_ ?_
 ·refine aE ⟨rfl,trivial⟩ ?_;simp[wk]
 rintro⟨i,hi⟩;simp only;by_cases hm:i<n
 ·have k1:i*c<(i+1)*c:=by rw[Nat.add_mul];omega
  have k2:(i+1)*c<=n*c:=Nat.mul_le_mul_right _ hm;have k3:(i+1)*c-i*c=c:=by rw[Nat.add_mul];omega
  have e1:IntKind.i64.wrap ((i:Int)*(c:Int))=((i*c:Nat):Int):=by rw[<- Int.natCast_mul];exact aO (by omega) (by omega)
  have e2:IntKind.i64.wrap (((i:Int)+1)*(c:Int))=(((i+1)*c:Nat):Int):=by
   have:((i:Int)+1)*(c:Int)=(((i+1)*c:Nat):Int):=by rw[Int.natCast_mul];rfl
   rw[this];exact aO (by omega) (by omega)
  have t1:=jP (d:=5016) (n:=n) (c:=c) (i:=i) hm;rw[if_neg (Nat.lt_irrefl i)]at t1;have t2:=D6 (d:=5016) (n:=n) (c:=c) (i:=i);have t3:=jP (d:=5016) (n:=n) (c:=c) (i:=i+1) (k:=i) hm;rw[if_pos (Nat.lt_succ_self i)]at t3;refine aD fun _ K=>?_;simp(disch:=omega) only[kd];apply K
  refine bx rfl ?_;refine aF (aK ?_);refine aD fun _ K=>?_;simp only[kd];apply K
  simp only[yb];refine aD fun _ K=>?_;simp(disch:=omega) only[kd,aa,e1,aO,e2,k1,k2,ah,k3,t1,t2];apply K
  refine aD fun _ K=>?_;simp(disch:=omega) only[kd,aa,t3];apply K
  refine aX (G:=jA c) (fun q=>⟨(jk::rN c::.fn fu [.p (.ptr cs1)]::j4 (.one (.sl 5016 1 0 (n*c))::.one (.sl 5016 0 0 n)::rN i::j4 (jk::jk::jk::.one (.sl 5016 0 0 n)::rN n::rN i::j16 (j4 (jk::jk::rN c::rN q.i::j4 (j4 (j4 (jk::jk::jk::[])))))))),Hm [(5016,yb 5016 n c (i+1) (part g i q.i))]⟩) (fun q=>c-q.i) ⟨0,by omega⟩ ?_ ?_
  ·refine aE ⟨rfl,trivial⟩ ?_;simp[wk]
  rintro⟨j,hj⟩;simp only;by_cases hm2:j<c
  ·have hS:=hf i j hm hm2;have hk:i*c+j<n*c:=by omega
   have g1:=aT (fl c (part g i j)) hk;have g2:=Hp (n:=n) (c:=c) (part g i j) (v:=g i j) hm hm2;refine aD fun _ K=>?_;simp(disch:=omega) only[kd];apply K
   refine bx rfl ?_;refine aF (aK ?_);refine aD fun _ K=>?_;simp only[kd];apply K
   simp only[yb];refine dW be [⟨8,_,_,_,hS⟩] [] (by kernel_rfl) fun _ K=>?_;simp(disch:=omega) only[kd,tZ,aa,t3,fZ,g1,DC,g2];apply K
   show bo _ _ _ _;refine aL fun _ K=>?_;simp(disch:=omega) only[kd,aO];apply K
   refine⟨⟨j+1,by omega⟩,by simp only;omega,aE ⟨?_,trivial⟩ ?_⟩
   ·show[_,_]=[_,_];rw[pe fun a b _ _=>ja g i j a b]
   simp[wk]
  have hjc:j=c:=by omega
  subst hjc;refine aD fun _ K=>?_;simp(disch:=omega) only[kd];apply K
  refine bG rfl ?_;show bo _ _ _ _;refine aL fun _ K=>?_;simp(disch:=omega) only[kd,aO];apply K
  refine⟨⟨i+1,by omega⟩,by simp only;omega,aE ⟨?_,trivial⟩ ?_⟩
  ·show[_,_]=[_,_];rw[pe fun a b _ hb=>ku g i a b hb]
  simp[wk]
 have hin:i=n:=by omega
 subst hin;refine aD fun _ K=>?_;simp(disch:=omega) only[kd];apply K
 refine bG rfl ?_;show bo _ _ _ _;refine aD fun _ K=>?_;simp only[kd];apply K
 refine bo.weak ((bH 5016 (D7 rfl)).trans (aE (tm:=(j4 (jk::jk::slM (mat i c g)::j16 (j16 (j16 (j4 ([]))))))) (l:=[]) trivial ?_)) ?_
 ·have e:=JF (c:=c) (H:=Hm [(5016,yb 5016 i c i (part g i 0))]) hc1 rfl;rw[dE fun a b ha _=>kt g a b ha]at e;simp[wk];exact e.symm
 (refine aH ⟨.inr rfl,aJ rfl ?_ rfl⟩;simp(disch:=omega) only[kd,Tryz.results146,slM])
theorem Mu (fu:FuncId) (cs1:List PV) (b:Nat) (ty:TypeId) (cs:List PV) (n c:Nat) (g:FF) (hn1:1<=n) (hn:n<=16) (hc1:1<=c) (hc:c<=16)
  (hf: ∀i j,i<n->j<c->CallT Tryz.prog b ty fu [.raw (.int .i64 (i:Int)),.raw (.int .i64 (j:Int)),.one (.p (.ptr cs1)),.raw (.pointer (some ⟨b,0,none⟩))] cs ⟨[],tZ (g i j)⟩ cs):
  CallT Tryz.prog b ty 146 [.raw (.int .i64 (n:Int)),.raw (.int .i64 (c:Int)),.fn fu [.p (.ptr cs1),.p (.raw (.pointer (some ⟨b,0,none⟩)))]] cs ⟨[],slM (mat n c g)⟩ cs:=by
 have hN:n*c<=256:=az (Nat.mul_le_mul hn hc) (by omega);have e0:IntKind.i64.wrap ((n:Int)*(c:Int))=((n*c:Nat):Int):=by rw[<- Int.natCast_mul];exact aO (by omega) (by omega)
 refine mj Tryz.func146 rfl (by kernel_rfl) ?_;rw[Tryz.ntmps146];refine aZ fun _ K=>?_;simp only[kd,aa,ae];apply K
 refine aZ fun _ K=>?_;simp(disch:=omega) only[kd,aa,e0];apply K
 refine aZ fun _ K=>?_;simp(disch:=omega) only[kd,aa,ab];apply K
 refine eB.weak ((gy 14).trans ((gy 16).trans ((vq 16 14 5016 (oa:=⟨84,1,Cw 5016 n c 0⟩) (oe:=⟨42,2,lc fZ (bA (n*c) (fl c (part g 0 0)))⟩) ?_ ?_ rfl (Ar _ _ _ _) (d7 _ _ _) (by omega) (by omega) (by omega)).trans (aE (tm:=(jk::rN c::.fn fu [.p (.ptr cs1),.p (.raw (.pointer (some ⟨b,0,none⟩)))]::j4 (.one (.sl 5016 1 0 (n*c))::.one (.sl 5016 0 0 n)::j16 (j16 (j16 (jk::jk::[])))))) (l:=[(5016,yb 5016 n c 0 (part g 0 0))]) ⟨rfl,trivial⟩ ?_)))) ?_
 ·exact As 5016 n c
 ·exact D8 n c g
 ·simp[wk,Lh,qu]
 simp only[yb];refine cP (aZ fun _ K=>?_);simp only[kd,aa];apply K;refine ma (G:=jA n) (fun q=>⟨(jk::rN c::.fn fu [.p (.ptr cs1),.p (.raw (.pointer (some ⟨b,0,none⟩)))]::j4 (.one (.sl 5016 1 0 (n*c))::.one (.sl 5016 0 0 n)::j4 (j4 (.one (.sl 5016 0 0 n)::rN n::rN q.i::j16 (j16 (j4 (jk::jk::jk::[]))))))),Hm [(5016,yb 5016 n c q.i (part g q.i 0))]⟩) (fun _=>cs) (fun q=>n-q.i) ⟨0,by omega⟩ ?_ rfl ?_
 ·refine aE ⟨rfl,trivial⟩ ?_;simp[wk]
 rintro⟨i,hi⟩;simp only;by_cases hm:i<n
 ·have k1:i*c<(i+1)*c:=by rw[Nat.add_mul];omega
  have k2:(i+1)*c<=n*c:=Nat.mul_le_mul_right _ hm;have k3:(i+1)*c-i*c=c:=by rw[Nat.add_mul];omega
  have e1:IntKind.i64.wrap ((i:Int)*(c:Int))=((i*c:Nat):Int):=by rw[<- Int.natCast_mul];exact aO (by omega) (by omega)
  have e2:IntKind.i64.wrap (((i:Int)+1)*(c:Int))=(((i+1)*c:Nat):Int):=by
   have:((i:Int)+1)*(c:Int)=(((i+1)*c:Nat):Int):=by rw[Int.natCast_mul];rfl
   rw[this];exact aO (by omega) (by omega)
  have t1:=jP (d:=5016) (n:=n) (c:=c) (i:=i) hm;rw[if_neg (Nat.lt_irrefl i)]at t1;have t2:=D6 (d:=5016) (n:=n) (c:=c) (i:=i);have t3:=jP (d:=5016) (n:=n) (c:=c) (i:=i+1) (k:=i) hm;rw[if_pos (Nat.lt_succ_self i)]at t3;refine aZ fun _ K=>?_;simp(disch:=omega) only[kd];apply K
  refine wW rfl ?_;refine cP (dC ?_);refine aZ fun _ K=>?_;simp only[kd];apply K
  simp only[yb];refine aZ fun _ K=>?_;simp(disch:=omega) only[kd,aa,e1,aO,e2,k1,k2,ah,k3,t1,t2];apply K
  refine aZ fun _ K=>?_;simp(disch:=omega) only[kd,aa,t3];apply K
  refine ma (G:=jA c) (fun q=>⟨(jk::rN c::.fn fu [.p (.ptr cs1),.p (.raw (.pointer (some ⟨b,0,none⟩)))]::j4 (.one (.sl 5016 1 0 (n*c))::.one (.sl 5016 0 0 n)::rN i::j4 (jk::jk::jk::.one (.sl 5016 0 0 n)::rN n::rN i::j16 (j4 (jk::jk::rN c::rN q.i::j4 (j4 (j4 (jk::jk::jk::[])))))))),Hm [(5016,yb 5016 n c (i+1) (part g i q.i))]⟩) (fun _=>cs) (fun q=>c-q.i) ⟨0,by omega⟩ ?_ rfl ?_
  ·refine aE ⟨rfl,trivial⟩ ?_;simp[wk]
  rintro⟨j,hj⟩;simp only;by_cases hm2:j<c
  ·have hS:=hf i j hm hm2;have hk:i*c+j<n*c:=by omega
   have g1:=aT (fl c (part g i j)) hk;have g2:=Hp (n:=n) (c:=c) (part g i j) (v:=g i j) hm hm2;refine aZ fun _ K=>?_;simp(disch:=omega) only[kd];apply K
   refine wW rfl ?_;refine cP (dC ?_);refine aZ fun _ K=>?_;simp only[kd];apply K
   simp only[yb];refine kS be 8 hS [] [] (by kernel_rfl) (by kernel_rfl) (by rfl) (by rfl) fun _ K=>?_;simp(disch:=omega) only[kd,tZ,aa,t3,fZ,g1,DC,g2];apply K
   show eB _ _ _ _ _ _ _;refine eY fun _ K=>?_;simp(disch:=omega) only[kd,aO];apply K
   refine⟨⟨j+1,by omega⟩,by simp only;omega,aE ⟨?_,trivial⟩ ?_,rfl⟩
   ·show[_,_]=[_,_];rw[pe fun a b _ _=>ja g i j a b]
   simp[wk]
  have hjc:j=c:=by omega
  subst hjc;refine aZ fun _ K=>?_;simp(disch:=omega) only[kd];apply K
  refine wV rfl ?_;show eB _ _ _ _ _ _ _;refine eY fun _ K=>?_;simp(disch:=omega) only[kd,aO];apply K
  refine⟨⟨i+1,by omega⟩,by simp only;omega,aE ⟨?_,trivial⟩ ?_,rfl⟩
  ·show[_,_]=[_,_];rw[pe fun a b _ hb=>ku g i a b hb]
  simp[wk]
 have hin:i=n:=by omega
 subst hin;refine aZ fun _ K=>?_;simp(disch:=omega) only[kd];apply K
 refine wV rfl ?_;show eB _ _ _ _ _ _ _;refine aZ fun _ K=>?_;simp only[kd];apply K
 refine eB.weak ((bH 5016 (D7 rfl)).trans (aE (tm:=(j4 (jk::jk::slM (mat i c g)::j16 (j16 (j16 (j4 ([]))))))) (l:=[]) trivial ?_)) ?_
 ·have e:=JF (c:=c) (H:=Hm [(5016,yb 5016 i c i (part g i 0))]) hc1 rfl;rw[dE fun a b ha _=>kt g a b ha]at e;simp[wk];exact e.symm
 (refine m8 ⟨.inr rfl,rfl,aJ rfl ?_ rfl⟩;simp(disch:=omega) only[kd,Tryz.results146,slM])
theorem d6 (l:List Nat) (hb:l.length<=1073741824):CallC Tryz.prog 145 [bz l] ⟨[],bz (dL l)⟩:=by
 refine aI Tryz.func145 rfl (by kernel_rfl) ?_;rw[Tryz.ntmps145];refine aD fun _ K=>?_;simp only[kd,bz,ae];apply K
 refine aF (aX (G:={n:Nat//n<=l.length/\dL l=dL (l.take n)}) (fun n=>⟨(bz (l.take n.1)::j16 (j4 ([]))),Hm []⟩) (fun n=>n.1) ⟨l.length,Nat.le_refl _,by simp⟩ ?_ ?_)
 ·refine aE trivial ?_;simp[wk]
 rintro⟨n,hn,hT⟩;simp only;have hlen:(l.take n).length=n:=by simp;omega
 by_cases h0:0<n
 ·obtain⟨a,ha⟩:=getElem?_of_lt (l:=l) (k:=n-1) (by omega);have e1:((n:Int)-1).toNat=n-1:=by omega
  have ha2:(l.take n)[n-1]?=some a:=by rw[List.getElem?_take,if_pos (by omega),ha]
  have htk:l.take n=l.take (n-1)++[a]:=by
   have:=List.take_succ_eq_append_getElem (i:=n-1) (l:=l) (by omega);rw[show n-1+1=n by omega]at this;rw[this,(List.getElem?_eq_some_iff.1 ha).2]
  refine aF (aD fun _ K=>?_);simp(disch:=omega) only[kd,aa,bz,hlen,aO,e1,ha2];apply K;refine bQ rfl (fun hz=>aM ?_) (fun hz=>bN ?_)
  ·have hz':a=0:=by simpa using hz
   refine aK ?_;refine aL fun _ K=>?_;simp(disch:=omega) only[kd,aa,hlen,aO,e1,BJ xr];apply K
   refine⟨⟨n-1,by omega,?_⟩,by simp only;omega,aE trivial ?_⟩
   ·rw[hT,htk,hz',mU]
   simp[wk,List.take_take,Nat.min_eq_left (show n-1<=n by omega)]
  have hz':a≠0:=by intro e;simp[e]at hz
  have hfin:dL l=l.take n:=by rw[hT,htk,wK hz']
  show bo _ _ _ _;refine aD fun _ K=>?_;simp(disch:=omega) only[kd];apply K
  (refine aH ⟨.inr rfl,aJ rfl ?_ rfl⟩;simp(disch:=omega) only[kd,Tryz.results145,bz,hfin])
 have hn0:n=0:=by omega
 subst hn0;have hfin:dL l=l.take 0:=by rw[hT];simp[dL]
 refine aF (aD fun _ K=>?_);simp(disch:=omega) only[kd,aa,bz];apply K;refine bQ rfl (fun hz=>by cases hz) (fun hz=>bN ?_);show bo _ _ _ _;refine aD fun _ K=>?_;simp only[kd];apply K
 (refine aH ⟨.inr rfl,aJ rfl ?_ rfl⟩;simp(disch:=omega) only[kd,Tryz.results145,bz,hfin])
theorem eo (neg:Bool) (n:Nat):CallC Tryz.prog 141 [.raw (.bool neg),bz (aP n)] ⟨[],tZ (fB neg n)⟩:=by
 by_cases h0:n=0
 ·subst h0;rw[cy,show tZ (fB neg 0)= .agg [.p (.raw (.bool false)),.p (.sl (ls fU []))] by
   have:fB neg 0=0:=by cases neg<;>rfl
   simp[this,tZ,cy]]
  refine aI Tryz.func141 rfl (by kernel_rfl) ?_;rw[Tryz.ntmps141];refine aD fun _ K=>?_;simp(disch:=omega) only[kd,bz,aa,ae];apply K
  refine aF (aD fun _ K=>?_);simp(disch:=omega) only[kd,aa];apply K;refine aU rfl ?_;refine aD fun _ K=>?_;simp(disch:=omega) only[kd,aa];apply K
  refine aH ⟨.inr rfl,?_⟩;refine⟨_,gy 4,pM (d:=1000) rfl ?_ rfl⟩;simp(disch:=omega) only[kd,Tryz.results141,zH,zO,AH,CI,aa]
 have hl:=fh (n:=n);have hl':(aP n).length≠0:=by omega
 rw[show tZ (fB neg n)= .agg [.p (.raw (.bool neg)),.p (.sl (ls fU (aP n)))] by
  have:decide (0<n)=true:=by simp;omega
  simp[tZ,mN,x5,this]]
 refine aI Tryz.func141 rfl (by kernel_rfl) ?_;rw[Tryz.ntmps141];refine aD fun _ K=>?_;simp(disch:=omega) only[kd,bz,aa,ae];apply K
 refine aF (aD fun _ K=>?_);simp(disch:=omega) only[kd,aa];apply K;refine aQ rfl (aM ?_);show bo _ _ _ _;refine aD fun _ K=>?_;simp(disch:=omega) only[kd,aa,ah];apply K
 (refine aH ⟨.inr rfl,aJ rfl ?_ rfl⟩;simp(disch:=omega) only[kd,Tryz.results141,aa])
theorem sT {P:Program} {f:FuncId} {args:List TV} {r:TV} (hc:callable P f=true) (h: ∀(X:Nat->Prop) (w:World) (vs:Array Value),(∀b,X b->b<w.heap.size)->vs.size=args.length->
  (∀(j:Nat) t,args[j]?=some t-> ∃v:Value,vs[j]?=some v/\t.rel (fun _ _=>none) (fun _=>[]) X w v)->Calls P f vs w fun e w'=> ∃v,e= .returned v/\(∀ρ H Y,(∀b,Y b->b<w.heap.size)->r.rel ρ H Y w' v)/\Ext w w'):CallC P f args ⟨[],r⟩:=
 ⟨hc,fun X w vs hX hvs ha=>(h X w vs hX hvs ha).mono fun e w' ⟨v,h1,h2,h3⟩=>⟨v,h1,fun _ _=>none,Du h3 hX,h2 _ _ _ (fun b hb=>by
  rcases hb with hb|⟨a,r,o,c,ho,hr⟩
  ·exact hX b hb
  cases hr)⟩⟩
end Go.Proofs.YtfgeomlagfomgaaGreatDoor
