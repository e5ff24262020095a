/-
  Part 17 of a proof (walks and plain facts).
-/
import Derived.Test.YtfgeomlagfomgaaGreatDoorQ15
import Derived.Lib.SmallJoins
set_option linter.all false
set_option maxRecDepth 100000
set_option maxHeartbeats 64000000
open Nat renaming reduceAdd → aa
open Nat renaming reduceEqDiff → ab
open List renaming replicate → ae
open Nat renaming reduceLeDiff → ah
open List renaming getElem?_eq_none → aq
open Nat renaming le_trans → az
namespace Go.Proofs.YtfgeomlagfomgaaGreatDoor
open Go.RowKit
theorem Mc {P:Program} {b:Nat} {ty:TypeId} {c z:Code} {Q:Exit->AS->List PV->Prop} {s S:AS} {cs cs1:List PV} (h1:eo P b ty c (tf (fun s' k=>ce s' S/\k=cs1) Q) s cs) (h2:eo P b ty z Q S cs1):eo P b ty c (tf (eo P b ty z Q) Q) s cs:=h1.mono fun e s' k h=>by
 cases e with
 |normal=>
  obtain⟨g1,rfl⟩:=h;exact eo.weak g1 h2
 |_=>exact h
def lJ (kind:Nat) (L:List Int) (n:Nat):(Nat->Nat->Int)×Nat:=
 if kind%8<4 then pZ L (gT L 0 6,kY L 0 n) n
 else if kind%8=4 then(upd (jB false n n) 0 0 (jB false n n 0 0+(f5 L 0 3:Int)),bI L 0)
 else if kind%8=5 then(upd (jB true n n) (n-1) (n-1) (jB true n n (n-1) (n-1)+(f5 L 0 2:Int)),bI L 0)
 else if kind%8=6 then(gT L 0 9,kY L 0 n)
 else(gT L 0 1,kY L 0 n)
open Classical in
noncomputable def fK (kind:Nat) (L:List Int) (n:Nat):Nat->Nat->Int:=if GoodP n (lJ kind L n).1 then(lJ kind L n).1 else gT L (lJ kind L n).2 2
theorem sJ (f:FF) (i j:Nat) (v:Int) (a b:Nat):upd f i j v a b=v\/upd f i j v a b=f a b:=by
 by_cases h:a=i/\b=j
 ·obtain⟨rfl,rfl⟩:=h;exact .inl (Aj f a b v)
 exact .inr (mO (by omega))
def CJ (f:FF):Prop:= ∀a b,-9<=f a b/\f a b<=9
theorem CJ.i64 {f:FF} (h:CJ f) (a b:Nat):EB (f a b):=by have:=h a b;exact⟨by omega,by omega⟩
theorem CJ.upd {f:FF} (h:CJ f) {i j:Nat} {v:Int} (h1: -9<=v) (h2:v<=9):CJ (Go.Proofs.YtfgeomlagfomgaaGreatDoor.upd f i j v):=fun a b=>by
 rcases sJ f i j v a b with e|e
 ·rw[e];exact⟨h1,h2⟩
 rw[e];exact h a b
theorem yY {L:List Int} {a most:Nat} (h1:0<most) (h2:most<=9):CJ (gT L a most):=fun i j=>by
 unfold gT;split
 ·have:=dA (n:=most) L (kY L a i) h1;omega
 omega
theorem Q4 (x:Int): -2<=Int.tmod x 3/\Int.tmod x 3<=2:=by
 have h1:=Int.tmod_lt_of_pos x (show(0:Int)<3 by omega);have h2:=Int.lt_tmod_of_pos x (show(0:Int)<3 by omega);omega
theorem JO {L:List Int} {i:Nat} {s:(Nat->Nat->Int)×Nat} (h:CJ s.1): ∀k,CJ (LT L i s k).1
 |0=>h
 |k+1=>by
  have:=Q4 (L.getD (LT L i s k).2 0);exact((JO h k).upd (by omega) (by omega)).upd (by omega) (by omega)
theorem JN {L:List Int} {s:(Nat->Nat->Int)×Nat} (h:CJ s.1): ∀i,CJ (pZ L s i).1
 |0=>h
 |i+1=>JO (JN h i) i
theorem pz (fork:Bool) (n:Nat): ∀i a b,-1<=jB fork n i a b/\jB fork n i a b<=2
 |0,_,_=>by simp[jB]
 |i+1,a,b=>by
  have ih:=pz fork n i;have u: ∀(f:FF) (i j:Nat) (v:Int),(∀a b,-1<=f a b/\f a b<=2)-> -1<=v/\v<=2-> ∀a b,-1<=upd f i j v a b/\upd f i j v a b<=2:=fun f i j v hf hv a b=>by
   rcases sJ f i j v a b with e|e
   ·rw[e];exact hv
   rw[e];exact hf a b
  unfold jB;split
  ·exact u _ _ _ _ ih (by omega) a b
  exact u _ _ _ _ (u _ _ _ _ (u _ _ _ _ ih (by omega)) (by omega)) (by omega) a b
theorem FO (kind:Nat) (L:List Int) (n:Nat):CJ (lJ kind L n).1:=by
 have b3:=dA (n:=3) L 0 (by omega);have b2:=dA (n:=2) L 0 (by omega);have c1:=pz false n n 0 0;have c2:=pz true n n (n-1) (n-1);unfold lJ;split
 ·exact JN (yY (by omega) (by omega)) n
 split
 ·exact CJ.upd (fun a b=>by have:=pz false n n a b;omega) (by omega) (by omega)
 split
 ·exact CJ.upd (fun a b=>by have:=pz true n n a b;omega) (by omega) (by omega)
 split
 ·exact yY (by omega) (by omega)
 exact yY (by omega) (by omega)
theorem Nm (kind:Nat) (L:List Int) (n:Nat):(lJ kind L n).2<=L.length:=by
 unfold lJ;split
 ·exact DC (rK (by omega) n) n
 split
 ·exact dV (by omega)
 split
 ·exact dV (by omega)
 split
 ·exact rK (by omega) n
 exact rK (by omega) n
abbrev tL (dim kind:Nat) (L B:List Int):TV:= .agg [.p (.raw (.int .u8 (dim:Int))),.p (.raw (.int .u8 (kind:Int))),.p (.sl (ls f8 L)),.p (.sl (ls f8 B))]
theorem CO (dim kind:Nat) (L B:List Int) (most n:Nat) (hL:I8 L) (hdim:dim<=255) (hkind:kind<=255) (hm1:1<=most) (hm8:most<=8) (hn:n=1+dim%most):
  CallC Tryz.prog 40 [tL dim kind L B,.raw (.int .i64 (most:Int))] ⟨[],bx (bs n n (fK kind L n))⟩:=by
 have hn1:1<=n:=by omega
 have hn8:n<=8:=by have:=Nat.mod_lt dim (show 0<most by omega);omega
 have e1:Int.tmod (dim:Int) (most:Int)=((dim%most:Nat):Int):=(Int.ofNat_tmod dim most).symm;have e2:Int.tmod (kind:Int) 8=((kind%8:Nat):Int):=(Int.ofNat_tmod kind 8).symm;have e3:1+((dim%most:Nat):Int)=(n:Int):=by omega
 refine aI Tryz.func40 rfl (by kernel_rfl) ?_;rw[Tryz.ntmps40];refine aD fun _ K=>?_;simp(disch:=omega) only[kd,tL,aa,ae];apply K
 refine aD fun _ K=>?_;simp(disch:=omega) only[kd,aa,ah,ab];apply K
 refine IL 11 (cs:=Cq L 0) rfl fun b=>?_
 refine eo.weak (aE (tm:=(jk::rN most::.one (.ptr 2 0 0 0)::jk::jk::de b::j16 (j16 (j16 (j16 (j4 ([]))))))) (l:=[(2,[⟨32,4,[[.p (.raw (.int .u8 (dim:Int))),.p (.raw (.int .u8 (kind:Int))),.p (.sl (ls f8 L)),.p (.sl (ls f8 B))]]⟩])]) ⟨rfl,trivial⟩ (by simp[wk,rY,ke])) ?_;refine aT fun _ K=>?_;simp(disch:=omega) only[kd,aa,de,aP,e1,e3];apply K
 refine aT fun _ K=>?_;simp only[kd];apply K
 refine cX (aT fun _ K=>?_);simp(disch:=omega) only[kd,aa,e2];apply K;have hraw:=FO kind L n;have hple:=Nm kind L n;refine Mc (S:=⟨(j4 (jk::de b::rN n::bx (bs n n (lJ kind L n).1)::j16 (j16 (j16 (j16 (jk::jk::[])))))),Hm []⟩) (cs1:=Cq L (lJ kind L n).2) ?_ ?_
 ·have hk8:=Nat.mod_lt kind (show 0<8 by omega);have hG:kind%8<4->lJ kind L n=pZ L (gT L 0 6,kY L 0 n) n:=fun h=>by unfold lJ;rw[if_pos h]
  have cg:=GT b L 0 n hL (by omega) hn8;have cha:=EO n false hn8;have chb:=EO n true hn8;have cb3:=lS b L 0 3 hL (by omega) (by omega) (by omega);have cb2:=lS b L 0 2 hL (by omega) (by omega) (by omega);have cd9:=mc b L 0 n 9 hL (by omega) hn8 (by omega) (by omega);have cd1:=mc b L 0 n 1 hL (by omega) hn8 (by omega) (by omega);rw[show((3:Nat):Int)=3 from rfl]at cb3;rw[show((2:Nat):Int)=2 from rfl]at cb2;rw[show((9:Nat):Int)=9 from rfl]at cd9;rw[show((1:Nat):Int)=1 from rfl]at cd1;have q3:=dA (n:=3) L 0 (by omega);have q2:=dA (n:=2) L 0 (by omega);have r1:=pz false n n 0 0;have r2:=pz true n n (n-1) (n-1);have x0:((n:Int)-1).toNat=n-1:=by omega
  have x1:=bO (n:=n) (i:=0) 35 n (by omega);have x2:=cx (n:=n) n (jB false n n) (i:=0) (by omega);have x3:=aU (m:=n) (jB false n n 0) (j:=0) (by omega);have y1:=bO (n:=n) (i:=n-1) 48 n (by omega);have y2:=cx (n:=n) n (jB true n n) (i:=n-1) (by omega);have y3:=aU (m:=n) (jB true n n (n-1)) (j:=n-1) (by omega);have hcase:kind%8=0\/kind%8=1\/kind%8=2\/kind%8=3\/kind%8=4\/kind%8=5\/kind%8=6\/kind%8=7:=by omega
  rcases hcase with hkk|hkk|hkk|hkk|hkk|hkk|hkk|hkk
  ·have hk:kind%8=0:=by omega
   rw[hk,show((0:Nat):Int)=0 from rfl];refine db ?_;refine cX (aT fun _ K=>?_);simp(disch:=omega) only[kd];apply K;refine fp rfl (i4 ?_);show eo _ _ _ _ _ _ _;refine fp rfl ?_;refine iH 2 cg [] [] (by kernel_rfl) (by rfl) (by rfl) fun _ K=>?_;simp only[kd,de,aa,ab];apply K
   rw[hG (by omega)];refine⟨(aE (tm:=(j4 (jk::de b::rN n::.one (.sl 31 0 0 n)::j16 (j16 (j16 (j16 (jk::jk::[]))))))) (l:=[(31,df 31 n n ((pZ L (gT L 0 6,kY L 0 n) n).1))]) ⟨cB 0 31 n n _,trivial⟩ (by simp[wk])).trans ((bZ 31 (dG rfl)).trans (aE (tm:=(j4 (jk::de b::rN n::bx (bs n n ((pZ L (gT L 0 6,kY L 0 n) n).1))::j16 (j16 (j16 (j16 (jk::jk::[]))))))) (l:=[]) trivial (by
    simp[wk];exact⟨rfl,rfl,(mU (H:=Hm [(31,df 31 n n ((pZ L (gT L 0 6,kY L 0 n) n).1))]) (d:=31) (n:=n) (c:=n) (f:=(pZ L (gT L 0 6,kY L 0 n) n).1) rfl).symm⟩))),rfl⟩
  ·have hk:kind%8=1:=by omega
   rw[hk,show((1:Nat):Int)=1 from rfl];refine db ?_;refine cX (aT fun _ K=>?_);simp(disch:=omega) only[kd];apply K;refine ck rfl ?_;refine aT fun _ K=>?_;simp(disch:=omega) only[kd];apply K
   refine fp rfl (i4 ?_);show eo _ _ _ _ _ _ _;refine fp rfl ?_;refine iH 2 cg [] [] (by kernel_rfl) (by rfl) (by rfl) fun _ K=>?_;simp only[kd,de,aa,ab];apply K
   rw[hG (by omega)];refine⟨(aE (tm:=(j4 (jk::de b::rN n::.one (.sl 31 0 0 n)::j16 (j16 (j16 (j16 (jk::jk::[]))))))) (l:=[(31,df 31 n n ((pZ L (gT L 0 6,kY L 0 n) n).1))]) ⟨cB 0 31 n n _,trivial⟩ (by simp[wk])).trans ((bZ 31 (dG rfl)).trans (aE (tm:=(j4 (jk::de b::rN n::bx (bs n n ((pZ L (gT L 0 6,kY L 0 n) n).1))::j16 (j16 (j16 (j16 (jk::jk::[]))))))) (l:=[]) trivial (by
    simp[wk];exact⟨rfl,rfl,(mU (H:=Hm [(31,df 31 n n ((pZ L (gT L 0 6,kY L 0 n) n).1))]) (d:=31) (n:=n) (c:=n) (f:=(pZ L (gT L 0 6,kY L 0 n) n).1) rfl).symm⟩))),rfl⟩
  ·have hk:kind%8=2:=by omega
   rw[hk,show((2:Nat):Int)=2 from rfl];refine db ?_;refine cX (aT fun _ K=>?_);simp(disch:=omega) only[kd];apply K;refine ck rfl ?_;refine aT fun _ K=>?_;simp(disch:=omega) only[kd];apply K
   refine ck rfl ?_;refine aT fun _ K=>?_;simp(disch:=omega) only[kd];apply K
   refine fp rfl (i4 ?_);show eo _ _ _ _ _ _ _;refine fp rfl ?_;refine iH 2 cg [] [] (by kernel_rfl) (by rfl) (by rfl) fun _ K=>?_;simp only[kd,de,aa,ab];apply K
   rw[hG (by omega)];refine⟨(aE (tm:=(j4 (jk::de b::rN n::.one (.sl 31 0 0 n)::j16 (j16 (j16 (j16 (jk::jk::[]))))))) (l:=[(31,df 31 n n ((pZ L (gT L 0 6,kY L 0 n) n).1))]) ⟨cB 0 31 n n _,trivial⟩ (by simp[wk])).trans ((bZ 31 (dG rfl)).trans (aE (tm:=(j4 (jk::de b::rN n::bx (bs n n ((pZ L (gT L 0 6,kY L 0 n) n).1))::j16 (j16 (j16 (j16 (jk::jk::[]))))))) (l:=[]) trivial (by
    simp[wk];exact⟨rfl,rfl,(mU (H:=Hm [(31,df 31 n n ((pZ L (gT L 0 6,kY L 0 n) n).1))]) (d:=31) (n:=n) (c:=n) (f:=(pZ L (gT L 0 6,kY L 0 n) n).1) rfl).symm⟩))),rfl⟩
  ·have hk:kind%8=3:=by omega
   rw[hk,show((3:Nat):Int)=3 from rfl];refine db ?_;refine cX (aT fun _ K=>?_);simp(disch:=omega) only[kd];apply K;refine ck rfl ?_;refine aT fun _ K=>?_;simp(disch:=omega) only[kd];apply K
   refine ck rfl ?_;refine aT fun _ K=>?_;simp(disch:=omega) only[kd];apply K
   refine ck rfl ?_;refine dp fun _ K=>?_;simp(disch:=omega) only[kd];apply K
   show eo _ _ _ _ _ _ _;refine fp rfl ?_;refine iH 2 cg [] [] (by kernel_rfl) (by rfl) (by rfl) fun _ K=>?_;simp only[kd,de,aa,ab];apply K
   rw[hG (by omega)];refine⟨(aE (tm:=(j4 (jk::de b::rN n::.one (.sl 31 0 0 n)::j16 (j16 (j16 (j16 (jk::jk::[]))))))) (l:=[(31,df 31 n n ((pZ L (gT L 0 6,kY L 0 n) n).1))]) ⟨cB 0 31 n n _,trivial⟩ (by simp[wk])).trans ((bZ 31 (dG rfl)).trans (aE (tm:=(j4 (jk::de b::rN n::bx (bs n n ((pZ L (gT L 0 6,kY L 0 n) n).1))::j16 (j16 (j16 (j16 (jk::jk::[]))))))) (l:=[]) trivial (by
    simp[wk];exact⟨rfl,rfl,(mU (H:=Hm [(31,df 31 n n ((pZ L (gT L 0 6,kY L 0 n) n).1))]) (d:=31) (n:=n) (c:=n) (f:=(pZ L (gT L 0 6,kY L 0 n) n).1) rfl).symm⟩))),rfl⟩
  ·have hk:kind%8=4:=by omega
   rw[hk,show((4:Nat):Int)=4 from rfl];refine db ?_;refine cX (aT fun _ K=>?_);simp(disch:=omega) only[kd];apply K;refine ck rfl ?_;refine aT fun _ K=>?_;simp(disch:=omega) only[kd];apply K
   refine ck rfl ?_;refine aT fun _ K=>?_;simp(disch:=omega) only[kd];apply K
   refine ck rfl ?_;refine dp fun _ K=>?_;simp(disch:=omega) only[kd];apply K
   show eo _ _ _ _ _ _ _;refine ck rfl ?_;refine aT fun _ K=>?_;simp(disch:=omega) only[kd];apply K
   refine fp rfl ?_;refine nd [⟨1,_,_,_,cha⟩] [] fun _ K=>?_;simp only[kd,aa,ab];apply K
   refine eo.weak (aE (tm:=(j4 (jk::de b::rN n::.one (.sl 35 0 0 n)::j16 (j16 (j16 (j16 (jk::jk::[]))))))) (l:=[(35,df 35 n n (jB false n n))]) ⟨cB 0 35 n n _,trivial⟩ (by simp[wk])) ?_;refine l5 be 6 cb3 [] [] (by kernel_rfl) (by kernel_rfl) (by rfl) (by rfl) fun _ K=>?_;simp(disch:=omega) only[kd,de,aa,Int.reduceToNat,x1,x2,x3,aP,dC];apply K
   rw[show lJ kind L n=(upd (jB false n n) 0 0 (jB false n n 0 0+(f5 L 0 3:Int)),bI L 0) by unfold lJ;rw[if_neg (by omega),if_pos hk]];refine⟨(aE (tm:=(j4 (jk::de b::rN n::.one (.sl 35 0 0 n)::j16 (j16 (j16 (j16 (jk::jk::[]))))))) (l:=[(35,df 35 n n (upd (jB false n n) 0 0 (jB false n n 0 0+(f5 L 0 3:Int))))]) ⟨rfl,trivial⟩ (by simp[wk])).trans ((bZ 35 (dG rfl)).trans (aE (tm:=(j4 (jk::de b::rN n::bx (bs n n (upd (jB false n n) 0 0 (jB false n n 0 0+(f5 L 0 3:Int))))::j16 (j16 (j16 (j16 (jk::jk::[]))))))) (l:=[]) trivial (by
    simp[wk];exact⟨rfl,rfl,(mU (H:=Hm [(35,df 35 n n (upd (jB false n n) 0 0 (jB false n n 0 0+(f5 L 0 3:Int))))]) (d:=35) (n:=n) (c:=n) (f:=upd (jB false n n) 0 0 (jB false n n 0 0+(f5 L 0 3:Int))) rfl).symm⟩))),rfl⟩
  ·have hk:kind%8=5:=by omega
   rw[hk,show((5:Nat):Int)=5 from rfl];refine db ?_;refine cX (aT fun _ K=>?_);simp(disch:=omega) only[kd];apply K;refine ck rfl ?_;refine aT fun _ K=>?_;simp(disch:=omega) only[kd];apply K
   refine ck rfl ?_;refine aT fun _ K=>?_;simp(disch:=omega) only[kd];apply K
   refine ck rfl ?_;refine dp fun _ K=>?_;simp(disch:=omega) only[kd];apply K
   show eo _ _ _ _ _ _ _;refine ck rfl ?_;refine aT fun _ K=>?_;simp(disch:=omega) only[kd];apply K
   refine ck rfl ?_;refine aT fun _ K=>?_;simp(disch:=omega) only[kd];apply K
   refine fp rfl ?_;refine nd [⟨1,_,_,_,chb⟩] [] fun _ K=>?_;simp only[kd,aa,ab];apply K
   refine eo.weak (aE (tm:=(j4 (jk::de b::rN n::.one (.sl 48 0 0 n)::j16 (j16 (j16 (j16 (jk::jk::[]))))))) (l:=[(48,df 48 n n (jB true n n))]) ⟨cB 0 48 n n _,trivial⟩ (by simp[wk])) ?_;refine l5 be 10 cb2 [] [] (by kernel_rfl) (by kernel_rfl) (by rfl) (by rfl) fun _ K=>?_;simp(disch:=omega) only[kd,de,aa,aP,x0,y1,y2,y3,dC];apply K
   rw[show lJ kind L n=(upd (jB true n n) (n-1) (n-1) (jB true n n (n-1) (n-1)+(f5 L 0 2:Int)),bI L 0) by unfold lJ;rw[if_neg (by omega),if_neg (by omega),if_pos hk]];refine⟨(aE (tm:=(j4 (jk::de b::rN n::.one (.sl 48 0 0 n)::j16 (j16 (j16 (j16 (jk::jk::[]))))))) (l:=[(48,df 48 n n (upd (jB true n n) (n-1) (n-1) (jB true n n (n-1) (n-1)+(f5 L 0 2:Int))))]) ⟨rfl,trivial⟩ (by simp[wk])).trans ((bZ 48 (dG rfl)).trans (aE (tm:=(j4 (jk::de b::rN n::bx (bs n n (upd (jB true n n) (n-1) (n-1) (jB true n n (n-1) (n-1)+(f5 L 0 2:Int))))::j16 (j16 (j16 (j16 (jk::jk::[]))))))) (l:=[]) trivial (by
    simp[wk];exact⟨rfl,rfl,(mU (H:=Hm [(48,df 48 n n (upd (jB true n n) (n-1) (n-1) (jB true n n (n-1) (n-1)+(f5 L 0 2:Int))))]) (d:=48) (n:=n) (c:=n) (f:=upd (jB true n n) (n-1) (n-1) (jB true n n (n-1) (n-1)+(f5 L 0 2:Int))) rfl).symm⟩))),rfl⟩
  ·have hk:kind%8=6:=by omega
   rw[hk,show((6:Nat):Int)=6 from rfl];refine db ?_;refine cX (aT fun _ K=>?_);simp(disch:=omega) only[kd];apply K;refine ck rfl ?_;refine aT fun _ K=>?_;simp(disch:=omega) only[kd];apply K
   refine ck rfl ?_;refine aT fun _ K=>?_;simp(disch:=omega) only[kd];apply K
   refine ck rfl ?_;refine dp fun _ K=>?_;simp(disch:=omega) only[kd];apply K
   show eo _ _ _ _ _ _ _;refine ck rfl ?_;refine aT fun _ K=>?_;simp(disch:=omega) only[kd];apply K
   refine ck rfl ?_;refine aT fun _ K=>?_;simp(disch:=omega) only[kd];apply K
   refine ck rfl ?_;refine aT fun _ K=>?_;simp(disch:=omega) only[kd];apply K
   refine fp rfl ?_;refine iH 2 cd9 [] [] (by kernel_rfl) (by rfl) (by rfl) fun _ K=>?_;simp only[kd,de,aa,ab];apply K
   rw[show lJ kind L n=(gT L 0 9,kY L 0 n) by unfold lJ;rw[if_neg (by omega),if_neg (by omega),if_neg (by omega),if_pos hk]];refine⟨(aE (tm:=(j4 (jk::de b::rN n::.one (.sl 66 0 0 n)::j16 (j16 (j16 (j16 (jk::jk::[]))))))) (l:=[(66,df 66 n n (gT L 0 9))]) ⟨cB 0 66 n n _,trivial⟩ (by simp[wk])).trans ((bZ 66 (dG rfl)).trans (aE (tm:=(j4 (jk::de b::rN n::bx (bs n n (gT L 0 9))::j16 (j16 (j16 (j16 (jk::jk::[]))))))) (l:=[]) trivial (by
    simp[wk];exact⟨rfl,rfl,(mU (H:=Hm [(66,df 66 n n (gT L 0 9))]) (d:=66) (n:=n) (c:=n) (f:=gT L 0 9) rfl).symm⟩))),rfl⟩
  have hk:kind%8=7:=by omega
  rw[hk,show((7:Nat):Int)=7 from rfl];refine db ?_;refine cX (aT fun _ K=>?_);simp(disch:=omega) only[kd];apply K;refine ck rfl ?_;refine aT fun _ K=>?_;simp(disch:=omega) only[kd];apply K
  refine ck rfl ?_;refine aT fun _ K=>?_;simp(disch:=omega) only[kd];apply K
  refine ck rfl ?_;refine dp fun _ K=>?_;simp(disch:=omega) only[kd];apply K
  show eo _ _ _ _ _ _ _;refine ck rfl ?_;refine aT fun _ K=>?_;simp(disch:=omega) only[kd];apply K
  refine ck rfl ?_;refine aT fun _ K=>?_;simp(disch:=omega) only[kd];apply K
  refine ck rfl ?_;refine aT fun _ K=>?_;simp(disch:=omega) only[kd];apply K
  refine ck rfl ?_;refine iH 2 cd1 [] [] (by kernel_rfl) (by rfl) (by rfl) fun _ K=>?_;simp only[kd,de,aa,ab];apply K
  rw[show lJ kind L n=(gT L 0 1,kY L 0 n) by unfold lJ;rw[if_neg (by omega),if_neg (by omega),if_neg (by omega),if_neg (by omega)]];refine⟨(aE (tm:=(j4 (jk::de b::rN n::.one (.sl 23 0 0 n)::j16 (j16 (j16 (j16 (jk::jk::[]))))))) (l:=[(23,df 23 n n (gT L 0 1))]) ⟨cB 0 23 n n _,trivial⟩ (by simp[wk])).trans ((bZ 23 (dG rfl)).trans (aE (tm:=(j4 (jk::de b::rN n::bx (bs n n (gT L 0 1))::j16 (j16 (j16 (j16 (jk::jk::[]))))))) (l:=[]) trivial (by
   simp[wk];exact⟨rfl,rfl,(mU (H:=Hm [(23,df 23 n n (gT L 0 1))]) (d:=23) (n:=n) (c:=n) (f:=gT L 0 1) rfl).symm⟩))),rfl⟩
 generalize hrw:lJ kind L n=rg at*
 obtain⟨f,p⟩:=rg;simp only at hraw hple⊢;have e5:fK kind L n=(open Classical in if GoodP n f then f else gT L p 2):=by unfold fK;rw[hrw]
 by_cases hg:GoodP n f
 ·rw[if_pos hg]at e5;rw[e5];have c1:=JJ n f hn1 hn8 hraw.i64 true (by simp[hg]);refine cX (nd [⟨1,_,_,_,c1⟩] [] fun _ K=>?_);simp only[kd,bx,aa,de];apply K;refine ck rfl (i4 ?_);show eo _ _ _ _ _ _ _;refine aT fun _ K=>?_;simp only[kd];apply K
  refine oq ⟨.inr rfl,aJ rfl ?_ rfl⟩;simp(disch:=omega) only[kd,Tryz.results40,bx]
 rw[if_neg hg]at e5;rw[e5];have c1:=JJ n f hn1 hn8 hraw.i64 false (by simp[hg]);have c2:=mc b L p n 2 hL hple hn8 (by omega) (by omega);rw[show((2:Nat):Int)=2 from rfl]at c2;refine cX (nd [⟨1,_,_,_,c1⟩] [] fun _ K=>?_);simp only[kd,bx,aa,de];apply K;refine fp rfl ?_;refine kZ 2 c2 [] [] (by kernel_rfl) (by rfl) (by rfl) fun _ K=>?_;simp only[kd,de,aa];apply K
 refine eo.weak (aE (tm:=(j4 (.one (.sl 72 0 0 n)::j16 (j16 (j16 (j16 (j4 (jk::[])))))))) (l:=[(72,df 72 n n (gT L p 2))]) ⟨cB 0 72 n n _,trivial⟩ (by simp[wk])) ?_;refine eo.weak ((bZ 72 (dG rfl)).trans (aE (tm:=(j4 (bx (bs n n (gT L p 2))::j16 (j16 (j16 (j16 (j4 (jk::[])))))))) (l:=[]) trivial (by
  simp[wk];exact(mU (H:=Hm [(72,df 72 n n (gT L p 2))]) (d:=72) (n:=n) (c:=n) (f:=gT L p 2) rfl).symm))) ?_
 refine oq ⟨.inr rfl,aJ rfl ?_ rfl⟩;simp(disch:=omega) only[kd,Tryz.results40,bx]
theorem IJ (n c:Nat) (f:FF) (hn1:1<=n) (hn:n<=16) (hc1:1<=c) (hc:c<=16) (hf: ∀i j:Nat,i<n->j<c->EB (f i j)):
  CallC Tryz.prog 44 [bJ (bs n c f)] ⟨df 0 n c f,mj n true⟩:=by
 have hS:=tA (bs n c f);rw[iv (kw f hn1 hn hc1 hc),aW,fV f hn1]at hS;refine aI Tryz.func44 rfl (by kernel_rfl) ?_;rw[Tryz.ntmps44];refine aD fun _ K=>?_;simp only[kd,bJ,ae];apply K
 refine aG [⟨1,_,_,_,hS⟩] [] fun _ K=>?_;simp only[kd,bJ,aa];apply K
 refine aF (aD fun _ K=>?_);simp only[kd];apply K;refine aR rfl (aM ?_);show bo _ _ _ _;refine aD fun _ K=>?_;simp(disch:=omega) only[kd,aa];apply K
 refine aF (aD fun _ K=>?_);simp only[kd,aa];apply K;refine aY (G:=j6 n) (fun g=>⟨(bJ (bs n c f)::j4 (.raw (.int .i64 (c:Int))::jk::.one (.sl 21 0 0 n)::j4 (j4 (j4 (jk::jk::jk::rN n::rN g.i::j16 (j16 (j4 (jk::jk::[])))))))),Hm [(21,kI 21 n c g.i (part f g.i 0))]⟩) (fun g=>n-g.i) ⟨0,by omega⟩ ?_ ?_
 ·refine aE ⟨?_,trivial⟩ ?_
  ·show[_]=_;simp[gC,bs]
  simp[wk]
 rintro⟨i,hi⟩;simp only;by_cases hm:i<n
 ·have hr:=bC c f hm;have k1:=pG (i:=i) (n:=n) 21 c hm;have k2:=iL (i:=i) (n:=n) 21 c hi;have k3:=aW i c (part f i 0);have k4:=mn (i:=i) (n:=n) (c:=c) 21 (part f i 0) hm (fun j hj=>by unfold part;rw[if_neg (by omega)]);have k5:=pF (i:=i+1) (k:=i) (n:=n) 21 c (by omega);have k6:=iL (i:=i+1) (n:=n) 21 c (by omega);have k7:=cx (n:=i+1) c (part f i 0) (i:=i) (by omega);refine aD fun _ K=>?_;simp(disch:=omega) only[kd,bJ];apply K
  refine bG rfl ?_;refine aF (aK ?_);refine aD fun _ K=>?_;simp only[kd];apply K
  refine aD fun _ K=>?_;simp(disch:=omega) only[kd,aa,ab,k1,ah,List.length_replicate,List.all_replicate,k3,Nat.reduceBEq];apply K
  refine bo.weak (aE (tm:=(bJ (bs n c f)::j4 (.raw (.int .i64 (c:Int))::jk::.one (.sl 21 0 0 n)::rN i::j4 (j4 (j4 (jk::jk::rN n::rN i::j16 (j16 (j4 (jk::jk::[]))))))))) (l:=[(21,kI 21 n c (i+1) (part f i 0))]) ⟨?_,trivial⟩ (by simp[wk])) ?_
  ·first|exact k4|rfl
  refine aD fun _ K=>?_;simp(disch:=omega) only[kd,aa,bJ,k5];apply K
  refine aY (G:=j6 c) (fun g=>⟨(bJ (bs n c f)::j4 (.raw (.int .i64 (c:Int))::jk::.one (.sl 21 0 0 n)::rN i::j4 (j4 (j4 (jk::jk::rN n::rN i::j4 (j4 (jk::jk::jk::rN c::rN g.i::j16 (j4 (j4 (jk::[])))))))))),Hm [(21,kI 21 n c (i+1) (part f i g.i))]⟩) (fun g=>c-g.i) ⟨0,by omega⟩ ?_ ?_
  ·refine aE ⟨rfl,trivial⟩ ?_;simp[wk]
  rintro⟨j,hj⟩;simp only;by_cases hm3:j<c
  ·have hjr:=aU (f i) hm3;have hz:=hf i j hm hm3;have cI:=L2 (f i j) (hz.sz (by omega));rw[jm,if_pos (show -9223372036854775808<=f i j/\f i j<=9223372036854775807 from hz)]at cI;have q7:=cx (n:=i+1) c (part f i j) (i:=i) (by omega);have q8:=aU (part f i j i) hm3;refine aD fun _ K=>?_;simp(disch:=omega) only[kd,bJ];apply K
   refine bG rfl ?_;refine aF (aK ?_);refine aD fun _ K=>?_;simp only[kd];apply K
   refine aG [⟨7,_,_,_,cI⟩] [] fun _ K=>?_;simp(disch:=omega) only[kd,tZ,aa,hr,fR,hjr,fZ];apply K
   refine aF (aD fun _ K=>?_);simp only[kd];apply K;refine aR rfl (aM ?_);show bo _ _ _ _;refine aL fun _ K=>?_;simp(disch:=omega) only[kd,aa,k5,q7,q8,dC];apply K
   show bo _ _ _ _;refine aL fun _ K=>?_;simp(disch:=omega) only[kd,aP];apply K
   refine⟨⟨j+1,by omega⟩,by simp only;omega,aE ⟨?_,trivial⟩ ?_⟩
   ·show _::_=_::_;rw[bL fun a b _ _=>jH f i j a b]
   simp[wk]
  have hjc:j=c:=by omega
  subst hjc;refine aD fun _ K=>?_;simp(disch:=omega) only[kd,bJ];apply K
  refine bT rfl ?_;show bo _ _ _ _;refine aL fun _ K=>?_;simp(disch:=omega) only[kd,aP];apply K
  refine⟨⟨i+1,by omega⟩,by simp only;omega,aE ⟨?_,trivial⟩ ?_⟩
  ·show _::_=_::_;rw[bL fun a b _ hb=>lF f i a b hb]
  simp[wk]
 have hin:i=n:=by omega
 subst hin;refine aD fun _ K=>?_;simp(disch:=omega) only[kd,bJ];apply K
 refine bT rfl ?_;show bo _ _ _ _;have e:kI 21 i c i (part f i 0)=df 21 i c f:=by
  rw[mm];show _::_=_::_;rw[bL fun a b ha _=>jS f a b ha]
 rw[e];refine aD fun _ K=>?_;simp only[kd,aa];apply K
 refine aH ⟨.inr rfl,DZ (d:=21) rfl ?_ (by decide)⟩;simp(disch:=omega) only[kd,Tryz.results44]
structure Rr (N B Z n:Nat) (f0 h T:FF) where
 f:Nat->Nat->Int
 t:Nat->Nat->Int
 s:Nat
 adds:Nat
 inv:RedI N B Z n f0 f t s adds
 rch:Rch n f t h T
theorem vk (a b:Nat):Sz (idF a b) 1:=by unfold idF;split<;>exact n9 (by decide) (by omega)
theorem No {N B S Z n:Nat} {f0 f t h T:FF} (kb:An N B S Z) (hn1:1<=n) (hn:n<=N) (hd:dk f0 n<=10000) (hr:Rch n f t h T): ∀s adds,RedI N B Z n f0 f t s adds->RedR h n:=by
 induction hr with
 |done f t hc=>exact fun s adds hI=>hI.red hn1 hd hc
 |step f t h T c hc _ ih=>
  intro s adds hI;cases c with
  |add i j=>exact ih _ _ (hI.add kb hn hc).1
  |swp m=>exact ih _ _ (hI.swap kb hn hc)
theorem Hd {N B S Z n:Nat} {f0 f t:FF} {s adds:Nat} (kb:An N B S Z) (h:RedI N B Z n f0 f t s adds) (hn:n<=N) {c:Ch} (hc:scanF f n=some c): ∀a b,a<n->b<n->Sz (Ot f c a b) 500:=fun a b ha hb=>by
 obtain⟨hF,hi⟩:=fd hc;cases c with
 |add i j=>
  have hi:i<n:=hi;show Sz (Gv i j (cF f i j) a b) 500;rcases sJ idF j i (cF f i j) a b with e|e
  ·unfold Gv;rw[e];exact(h.szc kb hn hi hF.1).mono (by have:=kb.z4;omega)
  unfold Gv;rw[e];exact(vk a b).mono (by omega)
 |swp m=>exact(vk _ b).mono (by omega)
theorem Pi {n:Nat} (f:FF) {c:Ch} (hc:scanF f n=some c):bs n n (cngF n f (Ot f c))=bs n n (RG f c):=by
 obtain⟨hF,hi⟩:=fd hc;refine eg fun a b ha hb=>?_
 cases c with
 |add i j=>exact yR (by have:=hF.1;omega) (by have:i<n:=hi;have:=hF.1;omega) f a b ha hb
 |swp m=>exact C5 hi f a b ha hb
structure tj (N B Z n:Nat) (f:FF):Prop where
 good:GoodP n f
 sz: ∀i j,i<n->j<n->Sz (f i j) 400
 st:RedI N B Z n f f idF 0 0
theorem tj.dk {N B S Z n:Nat} {f:FF} (kb:An N B S Z) (k:tj N B Z n f) (hn1:1<=n):dk f n<=10000:=by
 obtain⟨hs,hp,hd⟩:=k.good;have:=(kR hp (n-1) (by omega)).2;rw[show n-1+1=n by omega]at this;omega
theorem tj.ex {N B S Z n:Nat} {f:FF} (kb:An N B S Z) (k:tj N B Z n f) (hn1:1<=n) (hn:n<=N): ∃h T,RedR h n/\Rch n f idF h T:=by
 obtain⟨h,T,hr⟩:=pT (f0:=f) kb hn _ f idF 0 0 (Nat.le_refl _) k.st;exact⟨h,T,No kb hn1 hn (k.dk kb hn1) hr 0 0 k.st,hr⟩
theorem OD {n:Nat} {f:FF} (hn1:1<=n) (hn:n<=8) (hb:CJ f) (hg:GoodP n f):tj 8 bB 41 n f:=
 ⟨hg,fun i j _ _=>(hb.i64 i j).sz (by omega),RedI.start hn1 hn hg.1 hg.2.1 (fun a b=>by have:=hb a b;omega) (fun a b _ _=>vk a b)⟩
theorem xn {N B S Z:Nat} (kb:An N B S Z) (n:Nat) (f h T:FF) (hn1:1<=n) (hn:n<=N) (k:tj N B Z n f) (hred:RedR h n) (hr:Rch n f idF h T):
  CallC Tryz.prog 25 [bJ (bs n n f)] ⟨df 0 n n h,.tup [(false,[.sl 0 0 0 n]),(false,[.p (.sl (ls (fR fZ) (bs n n T)))]),(false,[.p (.raw (.int .i64 0))])]⟩:=by
 have hn8:n<=8:=az hn kb.n8;have hst:=k.st;obtain⟨hs,hp,hd⟩:=k.good;have hsz: ∀i j,i<n->j<n->Sz (f i j) 1024:=fun i j hi hj=>(k.sz i j hi hj).mono (by omega)
 obtain⟨e,he,c1⟩:=uo n n f hn1 (by omega) hn1 (by omega) hsz;have he0:e=0:=he.2 ⟨rfl,hn8,hs,hp⟩;subst he0;have c2:=K7 n f hn1 (by omega) hsz;rw[decide_eq_true hd]at c2;have c3:=IC n n f (by omega) hn1 (by omega) (fun i j hi hj=>(hsz i j hi hj).mono (by omega));have c4:=ug n hn1 (by omega);have hml:=aW n n f;refine aI Tryz.func25 rfl (by kernel_rfl) ?_;rw[Tryz.ntmps25];refine aD fun _ K=>?_;simp only[kd,aa,bJ,ae];apply K
 refine aF (aG [⟨1,_,_,_,c1⟩] [] fun _ K=>?_);simp only[kd,bJ,aa];apply K;refine aD fun _ K=>?_;simp(disch:=omega) only[kd];apply K
 refine aR rfl (aM ?_);show bo _ _ _ _;refine aF (aG [⟨1,_,_,_,c2⟩] [] fun _ K=>?_);simp only[kd,bJ,aa];apply K;refine aR rfl (aM ?_);show bo _ _ _ _;refine aG [⟨1,_,_,_,c3⟩] [] fun _ K=>?_;simp only[kd,bJ,aa];apply K
 refine aG [⟨2,_,_,_,c4⟩] [] fun _ K=>?_;simp only[kd,aa,hml,ab];apply K
 refine aY (G:=Rr N B Z n f h T) (fun g=>⟨(j4 (jk::jk::bJ (bs n n g.f)::bJ (bs n n g.t)::j16 (j16 (j4 (j4 (jk::[])))))),Hm []⟩) (fun g=>Ow S n g.f g.s) ⟨f,idF,0,0,hst,hr⟩ ?_ ?_
 ·refine(aE (tm:=(j4 (jk::jk::.one (.sl 22 0 0 n)::.one (.sl 26 0 0 n)::j16 (j16 (j4 (j4 (jk::[]))))))) (l:=[(22,gZ 22 n n f),(26,gZ 26 n n idF)]) ⟨gO 0 22 n n _,gO 0 26 n n _,trivial⟩ (by simp[wk])).trans ((bZ 22 (kq rfl)).trans ((aE (tm:=(j4 (jk::jk::bJ (bs n n f)::.one (.sl 26 0 0 n)::j16 (j16 (j4 (j4 (jk::[]))))))) (l:=[(26,gZ 26 n n idF)]) ⟨rfl,trivial⟩ (by
   simp[wk];exact⟨(Ov (H:=Hm [(22,gZ 22 n n f),(26,gZ 26 n n idF)]) (d:=22) (n:=n) (c:=n) (f:=f) rfl).symm,rfl⟩)).trans ((bZ 26 (kq rfl)).trans (aE trivial ?_))))
  simp[wk];exact⟨rfl,(Ov (H:=Hm [(26,gZ 26 n n idF)]) (d:=26) (n:=n) (c:=n) (f:=idF) rfl).symm⟩
 rintro⟨g,t,s,adds,hI,hrc⟩;simp only;have cs:=P4 n g hn1 hn8 hI.dfn.pos (fun i j hi hj=>(hI.szf kb hn hi hj).mono (by omega));cases hc:scanF g n with
 |none=>
  obtain⟨rfl,rfl⟩:g=h/\t=T:=by
   cases hrc with
   |done _ _ _=>exact⟨rfl,rfl⟩
   |step _ _ _ _ c hc' _=>rw[hc]at hc';cases hc'
  have hes:=oC hn1 hn8 hred;have ct:=IJ n n g hn1 (by omega) hn1 (by omega) (fun i j hi hj=>by have:=hes i hi j hj;exact⟨by omega,by omega⟩);rw[hc]at cs;refine aK ?_;refine aG [⟨1,_,_,_,cs⟩] [] fun _ K=>?_;simp only[kd,bJ,Qm,aa];apply K
  refine aF (aD fun _ K=>?_);simp only[kd];apply K;refine aX rfl ?_;refine aG [⟨1,_,_,_,ct⟩] [] fun _ K=>?_;simp only[kd,bJ,mj,aa];apply K
  refine bo.weak (aE (tm:=(j4 (jk::jk::jk::bJ (bs n n t)::jk::jk::jk::.one (.sl 38 0 0 n)::j16 (j16 (j4 (jk::[])))))) (l:=[(38,df 38 n n g)]) ⟨cB 0 38 _ _ _,trivial⟩ (by simp[wk])) ?_;refine aD fun _ K=>?_;simp only[kd,aa,bJ];apply K
  refine aH ⟨.inr rfl,_,ce.refl _,?_⟩;refine⟨.tup [(false,[.sl 38 0 0 n]),(false,[.p (.sl (ls (fR fZ) (bs n n t)))]),(false,[.p (.raw (.int .i64 0))])],38,?_,wq (by simp[jq,d9]) (by decide),(cB 38 0 _ _ _).symm,rfl⟩;simp(disch:=omega) only[kd,Tryz.results25]
 |some c=>
  have hrc':Rch n (RG g c) (eH n t (Ot g c)) h T:=by
   cases hrc with
   |done _ _ hc'=>rw[hc]at hc';cases hc'
   |step _ _ _ _ c' hc' hr'=>
    rw[hc]at hc';injection hc' with hc'
    subst hc';exact hr'
  rw[hc]at cs;have hch:=Hd kb hI hn hc;have ha:=hI.adds_le kb hn;have cc:=kh n g (Ot g c) hn1 (by omega) (fun i j hi hj=>(hI.szf kb hn hi hj).mono (by omega)) (fun i j hi hj=>(hch i j hi hj).mono (by omega));rw[Pi g hc]at cc;have cp:=rD n n n t (Ot g c) hn1 (by omega) hn1 (by omega) hn1 (by omega) (fun i j hi hj=>(hI.szt i j hi hj).mono (az (Nat.add_le_add_left (Nat.mul_le_mul_left (Z+4) ha) 1) (by have:=kb.sz;omega))) (fun i j hi hj=>(hch i j hi hj).mono (by omega));refine aK ?_;refine aG [⟨1,_,_,_,cs⟩] [] fun _ K=>?_;simp only[kd,bJ,Qm,aa];apply K
  refine aF (aD fun _ K=>?_);simp only[kd];apply K;refine aR rfl (aM ?_);show bo _ _ _ _;refine qb [⟨2,_,_,_,cc⟩,⟨5,_,_,_,cp⟩] [] fun _ K=>?_;simp only[kd,bJ,aa,Nat.reduceBEq];apply K
  cases c with
  |add i j=>
   refine⟨⟨_,_,s,adds+1,(hI.add kb hn hc).1,hrc'⟩,hI.mu_add kb hn hc,aE trivial ?_⟩;simp[wk];exact⟨rfl,rfl⟩
  |swp m=>
   refine⟨⟨_,_,s+1,adds,hI.swap kb hn hc,hrc'⟩,hI.mu_swap kb hn hc,aE trivial ?_⟩;simp[wk];exact⟨rfl,rfl⟩
theorem rE {N B S Z:Nat} (kb:An N B S Z) (n:Nat) (f h T:FF) (hn1:1<=n) (hn:n<=N) (k:tj N B Z n f) (hred:RedR h n) (hr:Rch n f idF h T):
  CallC Tryz.prog 25 [bJ (bs n n f)] ⟨[],.tup [(false,[.p (.sl (ls (fR fI) (bs n n h)))]),(false,[.p (.sl (ls (fR fZ) (bs n n T)))]),(false,[.p (.raw (.int .i64 0))])]⟩:=
 (xn kb n f h T hn1 hn k hred hr).fzT (by simp[isPure])
theorem yZ {f:FF} (h0: ∀a b,a≠b->f a b=0) (h1: ∀a,0<f a a): ∀k,(0<dk f k/\ ∀t,t<k->0<dk f (t+1))/\ ∀a b,k<=a->k<=b->bk f k a b=dk f k*f a b
 |0=>⟨⟨by rw[dI];omega,fun t ht=>by omega⟩,fun a b _ _=>by rw[dU,dI,Int.one_mul]⟩
 |k+1=>by
  obtain⟨⟨p0,p1⟩,p2⟩:=yZ h0 h1 k;have e:dk f (k+1)=dk f k*f k k:=by rw[ca,p2 k k (by omega) (by omega)]
  have hpos:0<dk f (k+1):=by rw[e];exact Int.mul_pos p0 (h1 k)
  refine⟨⟨hpos,fun t ht=>?_⟩,fun a b ha hb=>?_⟩
  ·by_cases et:t=k
   ·subst et;exact hpos
   exact p1 t (by omega)
  have s:=sylv f k (fun t ht=>by have:=p1 t ht;omega) a b;rw[p2 a b (by omega) (by omega),p2 a k (by omega) (by omega),h0 a k (by omega),Int.mul_zero,Int.zero_mul,Int.sub_zero]at s;refine Int.eq_of_mul_eq_mul_left (show dk f k≠0 by omega) ?_;rw[s];exact Int.mul_left_comm _ _ _
theorem E6 {f:FF} (h0: ∀a b,a≠b->f a b=0) (h1: ∀a,0<f a a) (h2: ∀a,f a a<=2): ∀k,dk f k<=2^k
 |0=>by rw[dI];decide
 |k+1=>by
  obtain⟨⟨p0,_⟩,p2⟩:=yZ h0 h1 k;rw[ca,p2 k k (by omega) (by omega),Int.pow_succ];have ih:=E6 h0 h1 h2 k;exact Int.mul_le_mul ih (h2 k) (Int.le_of_lt (h1 k)) (Int.le_trans (Int.le_of_lt p0) ih)
theorem Jm (L:List Int) (p n:Nat) (hn1:1<=n) (hn:n<=8):GoodP n (gT L p 2):=by
 have h0: ∀a b,a≠b->gT L p 2 a b=0:=fun a b h=>by unfold gT;rw[if_neg h]
 have h1: ∀a,0<gT L p 2 a a:=fun a=>by unfold gT;rw[if_pos rfl];omega
 have h2: ∀a,gT L p 2 a a<=2:=fun a=>by
  unfold gT;rw[if_pos rfl];have:=dA (n:=2) L (kY L p a) (by omega);omega
 have hpos: ∀k,0<dk (gT L p 2) (k+1):=fun k=>(yZ h0 h1 (k+1)).1.1
 have hdet: ∀k,detF (k+1) (gT L p 2)=dk (gT L p 2) (k+1):=fun k=>mb fun t _=>by have:=hpos t;omega
 refine⟨fun a _ b _=>?_,fun k _=>by rw[hdet];exact hpos k,?_⟩
 ·by_cases e:a=b
  ·rw[e]
  rw[h0 a b e,h0 b a (Ne.symm e)]
 have e:=hdet (n-1);rw[show n-1+1=n by omega]at e;rw[e];have h3:=E6 h0 h1 h2 n;have h4:(2:Int)^n<=2^8:=by
  have:=Nat.pow_le_pow_right (show 0<2 by omega) hn
  exact_mod_cast this
 have h5:(2:Int)^8=256:=by decide
 omega
theorem fP (kind:Nat) (L:List Int) (n:Nat) (hn1:1<=n) (hn:n<=8):GoodP n (fK kind L n)/\CJ (fK kind L n):=by
 unfold fK;split
 ·rename_i h;exact⟨h,FO kind L n⟩
 exact⟨Jm L _ n hn1 hn,yY (by omega) (by omega)⟩
theorem L1 (dim kind:Nat) (L B:List Int) (most n:Nat) (h T:FF) (hL:I8 L) (hdim:dim<=255) (hkind:kind<=255) (hm1:1<=most) (hm8:most<=8) (hn:n=1+dim%most) (hr:RedR h n) (hT:Rch n (fK kind L n) idF h T):
  CallC Tryz.prog 16 [tL dim kind L B,.raw (.int .i64 (most:Int))] ⟨df 0 n n h,.one (.sl 0 0 0 n)⟩:=by
 have hn1:1<=n:=by omega
 have hn8:n<=8:=by have:=Nat.mod_lt dim (show 0<most by omega);omega
 have c1:=CO dim kind L B most n hL hdim hkind hm1 hm8 hn;obtain⟨hg,hb⟩:=fP kind L n hn1 hn8;have c3:=xn RE n (fK kind L n) h T hn1 hn8 (OD hn1 hn8 hb hg) hr hT;have c2:=Ay n n (fK kind L n) hn1 (by omega) hn1 (by omega) (fun i j _ _=>hb.i64 i j);generalize fK kind L n=gg at*
 refine aI Tryz.func16 rfl (by kernel_rfl) ?_;rw[Tryz.ntmps16];refine aD fun _ K=>?_;simp(disch:=omega) only[kd,tL,aa,ae];apply K
 refine aG [⟨2,_,_,_,c1⟩,⟨3,_,_,_,c2⟩,⟨4,_,_,_,c3⟩] [] fun _ K=>?_;simp only[kd,tL,bx,bJ,aa,Nat.reduceBEq,ab];apply K
 refine bo.weak (aE (tm:=(j4 (jk::.one (.sl 13 0 0 n)::j4 (j4 (j4 ([])))))) (l:=[(13,df 13 n n h)]) ⟨cB 0 13 _ _ _,trivial⟩ (by simp[wk])) ?_;refine aD fun _ K=>?_;simp only[kd];apply K
 refine aH ⟨.inr rfl,_,ce.refl _,?_⟩;refine⟨.one (.sl 13 0 0 n),13,?_,rfl,(cB 13 0 _ _ _).symm,rfl⟩;simp(disch:=omega) only[kd,Tryz.results16]
theorem yw (dim kind:Nat) (L B:List Int) (most n:Nat) (h T:FF) (hL:I8 L) (hdim:dim<=255) (hkind:kind<=255) (hm1:1<=most) (hm8:most<=8) (hn:n=1+dim%most) (hr:RedR h n) (hT:Rch n (fK kind L n) idF h T):
  CallC Tryz.prog 16 [tL dim kind L B,.raw (.int .i64 (most:Int))] ⟨[],bx (bs n n h)⟩:=
 (L1 dim kind L B most n h T hL hdim hkind hm1 hm8 hn hr hT).fzI
theorem CM (kind:Nat) (L:List Int) {n:Nat} (hn1:1<=n) (hn8:n<=8): ∃h T,RedR h n/\Rch n (fK kind L n) idF h T:=by
 obtain⟨hg,hb⟩:=fP kind L n hn1 hn8;exact(OD hn1 hn8 hb hg).ex RE hn1 hn8
theorem OU (dim kind:Nat) (L B:List Int) (most n:Nat) (hL:I8 L) (hdim:dim<=255) (hkind:kind<=255) (hm1:1<=most) (hm8:most<=8) (hn:n=1+dim%most):
  ∃h,RedR h n/\CallC Tryz.prog 16 [tL dim kind L B,.raw (.int .i64 (most:Int))] ⟨[],bx (bs n n h)⟩:=by
 obtain⟨h,T,h1,h2⟩:=CM kind L (n:=n) (by omega) (by have:=Nat.mod_lt dim (show 0<most by omega);omega);exact⟨h,h1,yw dim kind L B most n h T hL hdim hkind hm1 hm8 hn h1 h2⟩
abbrev z7 (l:List Int):TV:= .one (.p (.sl (ls f8 l)))
section
open Go.ChangeShapes Go.WideShapes Go.ChangeAt Go.RowKit
theorem Np {w:World} {l:List Int} {A:Option Addr} {c:Nat} (hl:l.length<=c) (hm:l.length<=9223372036854775807) (h:RdI .i8 w A l):cW (fun _=>False) w (.sl (ls f8 l)) (.slice A l.length c):=by
 cases l with
 |nil=>exact cW.nil _ _
 |cons z0 l0=>
  obtain⟨b,off,rfl,hc⟩:=h (by simp);have h0:=hc 0 (.int .i8 z0) (by simp);have hb:b<w.heap.size:=ou h0;have:=cW.sl (X:=fun _=>False) (w:=w) b off 1 c (ls f8 (z0::l0)) (fun i _=> .int .i8 ((z0::l0).getD i 0)) (fun h=>h) hb (fun e he=>by
   obtain⟨z,_,rfl⟩:=List.mem_map.1 he;rfl) (by rw[fJ];exact hl) (by rw[fJ];exact hm) (fun i e j x he hx=>by
   rw[io]at he;obtain⟨z,hz,rfl⟩:=Option.map_eq_some_iff.1 he;cases j with
   |succ j=>simp[f8]at hx
   |zero=>
    have:=hc i (.int .i8 z) (by rw[List.getElem?_map,hz];rfl);simp only[Nat.mul_one,Nat.add_zero,List.getD_eq_getElem?_getD,hz,Option.getD_some];exact this) (fun i e j x he hx=>by
   rw[io]at he;obtain⟨z,hz,rfl⟩:=Option.map_eq_some_iff.1 he;cases j with
   |succ j=>simp[f8]at hx
   |zero=>
    simp[f8]at hx;subst hx;simp only[List.getD_eq_getElem?_getD,hz,Option.getD_some];exact cW.raw _ rfl)
  rw[fJ]at this;exact this
theorem jR {H:Type} {enc:TypeId×Value->H} {P:Program} {W:World} {base:Nat} {held:Bool} {t e:TypeId} {n:Nat} {v:Value} {y:DataW H×List MemPlace}
  (ht:P.underlying t=some (.slice e)) (he:P.underlying e=some (.int .i8)) (hc:P.cellsOf e=1) (h:DataW.trod enc P W base (fun _=>true) held n t [v]=some y):
  ∃L:List Int,cW (fun _=>False) W (.sl (ls f8 L)) v/\I8 L:=by
 rcases DataW.trod_slice ht h with⟨hcs,_⟩|⟨x,l,c,_,_,_,_,hcs,_⟩
 ·simp at hcs;subst hcs;exact⟨[],cW.nil _ _,fun z hz=>by simp at hz⟩
 simp at hcs;subst hcs;obtain⟨zs,g1,g2,g3,g4,g5,_⟩:=Kp (enc:=enc) (base:=base) (held:=held) (d:=y.1) (p:=y.2) ht he hc ⟨n,by simpa[Value.cells] using h⟩;refine⟨zs,?_,fun z hz=>LL (g5 z hz)⟩;rw[g1];unfold maxLen at g3;exact Np (by omega) (by omega) g4
theorem mA {H:Type} {enc:TypeId×Value->H} {P:Program} {W:World} {base:Nat} {held:Bool} {t:TypeId} {n:Nat} {v:Value} {y:DataW H×List MemPlace}
  (ht:P.underlying t=some (.int .u8)) (h:DataW.trod enc P W base (fun _=>true) held n t [v]=some y): ∃m:Nat,v= .int .u8 (m:Int)/\m<=255:=by
 obtain⟨m,hv,_,hw⟩:=DataW.trod_int ht h;have:=j1 hw;refine⟨m.toNat,?_,by omega⟩;simp at hv;rw[hv]
 congr 1
 omega
theorem OE {w:World} {d k:Nat} {L B:List Int} {v2 v3:Value} (h2:cW (fun _=>False) w (.sl (ls f8 L)) v2) (h3:cW (fun _=>False) w (.sl (ls f8 B)) v3):
  (tL d k L B).rel (fun _ _=>none) (fun _=>[]) (fun _=>False) w (.agg #[.int .u8 (d:Int),.int .u8 (k:Int),v2,v3]):=by
 refine⟨#[.int .u8 (d:Int),.int .u8 (k:Int),v2,v3],rfl,rfl,fun j x hx=>?_⟩
 match j,hx with
 |0,hx=>simp at hx;subst hx;exact⟨_,rfl,rfl,cW.raw _ rfl⟩
 |1,hx=>simp at hx;subst hx;exact⟨_,rfl,rfl,cW.raw _ rfl⟩
 |2,hx=>simp at hx;subst hx;exact⟨_,rfl,h2.one,h2⟩
 |3,hx=>simp at hx;subst hx;exact⟨_,rfl,h3.one,h3⟩
 |j+4,hx=>simp at hx
theorem I1 {w:World}: ∀{ts:List TV} {vs:List Value},ts.length=vs.length->(∀(j:Nat) t v,ts[j]?=some t->vs[j]?=some v->t.rel (fun _ _=>none) (fun _=>[]) (fun _=>False) w v)->
  ∀(j:Nat) t,ts[j]?=some t-> ∃v:Value,vs.toArray[j]?=some v/\t.rel (fun _ _=>none) (fun _=>[]) (fun _=>False) w v:=fun{ts vs} hl h j t hj=>by
 have hlt:=(List.getElem?_eq_some_iff.1 hj).1;obtain⟨v,hv⟩: ∃v,vs[j]?=some v:=⟨_,List.getElem?_eq_getElem (by omega)⟩;exact⟨v,by simpa using hv,h j t v hj hv⟩
end
def fl (c:Nat) (g:FF):Nat->Int:=fun k=>g (k/c) (k%c)
theorem QN {c:Nat} (g:FF) {i j:Nat} (hj:j<c):fl c g (i*c+j)=g i j:=by
 unfold fl;have h:=y4 (i:=i) (j:=j) (sz:=c) hj;rw[h.1,h.2]
theorem qo {n c:Nat} {g g':FF} (h: ∀a b,a<n->b<c->g a b=g' a b):bE (n*c) (fl c g)=bE (n*c) (fl c g'):=fc fun k hk=>by
 have hc:0<c:=by
  rcases Nat.eq_zero_or_pos c with h|h
  ·subst h;simp at hk
  exact h
 exact h _ _ (Nat.div_lt_of_lt_mul (by rw[Nat.mul_comm];exact hk)) (Nat.mod_lt _ hc)
theorem JD {n c i j:Nat} (g:FF) {v:Int} (hi:i<n) (hj:j<c):(bE (n*c) (fl c g)).set (i*c+j) v=bE (n*c) (fl c (upd g i j v)):=by
 rw[qX];refine fc fun k hk=>?_
 have hc:0<c:=by omega
 unfold fl upd;by_cases h:k=i*c+j
 ·subst h;have h:=y4 (i:=i) (j:=j) (sz:=c) hj;rw[h.1,h.2];simp
 rw[if_neg h];by_cases h1:k/c=i
 ·have h2:k%c≠j:=fun hh=>h (by
   have:=Nat.div_add_mod k c;rw[h1,hh,Nat.mul_comm]at this;exact this.symm)
  rw[if_pos h1];show _=if k%c=j then v else g i (k%c)
  rw[if_neg h2,h1]
 rw[if_neg h1]
theorem Fw (l:List Int) (k:Nat) (v:Int):(lc fZ l).set k [.p (.raw (.bool (decide (v<0)))),.p (.sl (ls fU (aS v.natAbs)))]=lc fZ (l.set k v):=by
 rw[<- zi];rfl
def Eh (d n c i:Nat):List (List AV):=(List.range n).map fun k=>if k<i then[.sl d 1 (k*c) c]else[.p (.sl [])]
def Ac (d n c i:Nat) (g:FF):List OObj:=[⟨84,1,Eh d n c i⟩,⟨42,2,lc fZ (bE (n*c) (fl c g))⟩]
theorem rk (d n c i:Nat):(Eh d n c i).length=n:=by simp[Eh]
theorem kE {d n c i k:Nat} (h:k<n):(Eh d n c i)[k]?=some (if k<i then[.sl d 1 (k*c) c]else[.p (.sl [])]):=by
 unfold Eh;rw[List.getElem?_map,List.getElem?_range h];rfl
theorem F7 {d n c i:Nat}:(Eh d n c i).set i [.sl d 1 (i*c) c]=Eh d n c (i+1):=by
 apply List.ext_getElem?;intro k;by_cases hk:k<n
 ·by_cases h:k=i
  ·subst h;rw[List.getElem?_set_self (by rw[rk];exact hk),kE hk,if_pos (Nat.lt_succ_self k)]
  rw[List.getElem?_set_ne (Ne.symm h),kE hk,kE hk];by_cases h2:k<i
  ·rw[if_pos h2,if_pos (by omega)]
  rw[if_neg h2,if_neg (by omega)]
 rw[aq (by rw[List.length_set,rk];omega),aq (by rw[rk];omega)]
theorem Cp (d n c:Nat):([⟨84,1,ae n [.raw (.slice none 0 0)]⟩]:List OObj).map zO=[⟨84,1,Eh d n c 0⟩]:=by
 simp[zO,Eh,Ar,CA,List.map_const']
theorem F9 (n c:Nat) (g:FF):([⟨42,2,ae (n*c) [.raw (.bool false),.raw (.slice none 0 0)]⟩]:List OObj).map zO=[⟨42,2,lc fZ (bE (n*c) (fl c (part g 0 0)))⟩]:=by
 have e2:bE (n*c) (fl c (part g 0 0))=ae (n*c) 0:=by
  apply List.ext_getElem?;intro b;by_cases hb:b<n*c
  ·rw[aU _ hb,List.getElem?_replicate,if_pos hb];simp[fl,part]
  rw[aq (by rw[bv];omega),aq (by simp;omega)]
 simp[e2,zO,lc,fZ,Ar,CA,cH,ls]
theorem Co (ty d n c:Nat):qL ⟨ty,1,Eh d n c 0⟩:=fun e he x hx=>by
 simp only[Eh,List.mem_map]at he;obtain⟨k,_,rfl⟩:=he;simp at hx;subst hx;rfl
theorem F8 {H:OH} {d n c i:Nat} {g:FF} (h:H d=Ac d n c i g):wW H d:=fun r o ho e he x hx=>by
 rw[h]at ho
 match r,ho with
 |0,ho=>
  simp[Ac]at ho;subst ho;simp only[Eh,List.mem_map]at he;obtain⟨k,_,rfl⟩:=he;split at hx
  ·simp at hx;subst hx;exact .inr ⟨1,_,_,⟨42,2,lc fZ (bE (n*c) (fl c g))⟩,rfl,by rw[h];rfl,fb _ _ _⟩
  simp at hx;subst hx;exact .inl rfl
 |1,ho=>
  simp[Ac]at ho;subst ho;exact .inl (fb _ _ _ e he x hx)
 |r+2,ho=>simp[Ac]at ho
theorem H4 {n c i:Nat} (g:FF) (hi:i<n):((bE (n*c) (fl c g)).take (i*c+c)).drop (i*c)=bE c (g i):=by
 have hk:i*c+c<=n*c:=by
  have:=Nat.mul_le_mul_right c hi;rw[Nat.succ_mul]at this;exact this
 apply List.ext_getElem?;intro j;rw[List.getElem?_drop,List.getElem?_take];by_cases hj:j<c
 ·rw[if_pos (by omega),aU _ (by omega),QN g hj,aU _ hj]
 rw[if_neg (by omega),aq (by rw[bv];omega)]
theorem Le {H:OH} {n c:Nat} {g:FF} (_hc:1<=c) (h:H 5016=Ac 5016 n c n g):ij H 5016 (.one (.sl 5016 0 0 n))= .one (.p (.sl (ls (fR fZ) (bs n c g)))):=by
 have h0:(H 5016)[0]?=some ⟨84,1,Eh 5016 n c n⟩:=by rw[h];rfl
 have h1:(H 5016)[1]?=some ⟨42,2,lc fZ (bE (n*c) (fl c g))⟩:=by rw[h];rfl
 simp only[ij,fH,if_true,h0]
 congr 3
 rw[Nat.zero_add,List.drop_zero,List.take_of_length_le (by rw[rk];exact Nat.le_refl _)];apply List.ext_getElem?;intro k;rw[List.getElem?_map,io];by_cases hk:k<n
 ·rw[kE hk,if_pos hk,bC c g hk];simp only[Option.map_some,List.map_cons,List.map_nil,kn,h1,gN,zf,H4 g hk,tK];rfl
 rw[aq (by rw[rk];omega),aq (by rw[aW];omega)];rfl
theorem NR (fu:FuncId) (cs1:List PV) (n c:Nat) (g:FF) (hn1:1<=n) (hn:n<=16) (hc1:1<=c) (hc:c<=16)
  (hf: ∀i j,i<n->j<c->CallC Tryz.prog fu [.raw (.int .i64 (i:Int)),.raw (.int .i64 (j:Int)),.one (.p (.ptr cs1))] ⟨[],tZ (g i j)⟩):
  CallC Tryz.prog 146 [.raw (.int .i64 (n:Int)),.raw (.int .i64 (c:Int)),.fn fu [.p (.ptr cs1)]] ⟨[],bJ (bs n c g)⟩:=by
 have hN:n*c<=256:=az (Nat.mul_le_mul hn hc) (by omega);have e0:IntKind.i64.wrap ((n:Int)*(c:Int))=((n*c:Nat):Int):=by rw[<- Int.natCast_mul];exact aP (by omega) (by omega)
 refine aI Tryz.func146 rfl (by kernel_rfl) ?_;rw[Tryz.ntmps146];refine aD fun _ K=>?_;simp only[kd,aa,ae];apply K
 refine aD fun _ K=>?_;simp(disch:=omega) only[kd,aa,e0];apply K
 refine aD fun _ K=>?_;simp(disch:=omega) only[kd,aa,ab];apply K
 refine bo.weak ((fo 14).trans ((fo 16).trans ((xo 16 14 5016 (oa:=⟨84,1,Eh 5016 n c 0⟩) (oe:=⟨42,2,lc fZ (bE (n*c) (fl c (part g 0 0)))⟩) ?_ ?_ rfl (Co _ _ _ _) (fb _ _ _) (by omega) (by omega) (by omega)).trans (aE (tm:=(jk::rN c::.fn fu [.p (.ptr cs1)]::j4 (.one (.sl 5016 1 0 (n*c))::.one (.sl 5016 0 0 n)::j16 (j16 (j16 (jk::jk::[])))))) (l:=[(5016,Ac 5016 n c 0 (part g 0 0))]) ⟨rfl,trivial⟩ ?_)))) ?_
 ·exact Cp 5016 n c
 ·exact F9 n c g
 ·simp[wk,MP,rV]
 simp only[Ac];refine aF (aD fun _ K=>?_);simp only[kd,aa];apply K;refine aY (G:=j6 n) (fun q=>⟨(jk::rN c::.fn fu [.p (.ptr cs1)]::j4 (.one (.sl 5016 1 0 (n*c))::.one (.sl 5016 0 0 n)::j4 (j4 (.one (.sl 5016 0 0 n)::rN n::rN q.i::j16 (j16 (j4 (jk::jk::jk::[]))))))),Hm [(5016,Ac 5016 n c q.i (part g q.i 0))]⟩) (fun q=>n-q.i) ⟨0,by omega⟩ ?_ ?_
 ·refine aE ⟨rfl,trivial⟩ ?_;simp[wk]
 rintro⟨i,hi⟩;simp only;by_cases hm:i<n
 ·have k1:i*c<(i+1)*c:=by rw[Nat.add_mul];omega
  have k2:(i+1)*c<=n*c:=Nat.mul_le_mul_right _ hm;have k3:(i+1)*c-i*c=c:=by rw[Nat.add_mul];omega
  have e1:IntKind.i64.wrap ((i:Int)*(c:Int))=((i*c:Nat):Int):=by rw[<- Int.natCast_mul];exact aP (by omega) (by omega)
  have e2:IntKind.i64.wrap (((i:Int)+1)*(c:Int))=(((i+1)*c:Nat):Int):=by
   have:((i:Int)+1)*(c:Int)=(((i+1)*c:Nat):Int):=by rw[Int.natCast_mul];rfl
   rw[this];exact aP (by omega) (by omega)
  have t1:=kE (d:=5016) (n:=n) (c:=c) (i:=i) hm;rw[if_neg (Nat.lt_irrefl i)]at t1;have t2:=F7 (d:=5016) (n:=n) (c:=c) (i:=i);have t3:=kE (d:=5016) (n:=n) (c:=c) (i:=i+1) (k:=i) hm;rw[if_pos (Nat.lt_succ_self i)]at t3;refine aD fun _ K=>?_;simp(disch:=omega) only[kd];apply K
  refine bG rfl ?_;refine aF (aK ?_);refine aD fun _ K=>?_;simp only[kd];apply K
  simp only[Ac];refine aD fun _ K=>?_;simp(disch:=omega) only[kd,aa,e1,aP,e2,k1,k2,ah,k3,t1,t2];apply K
  refine aD fun _ K=>?_;simp(disch:=omega) only[kd,aa,t3];apply K
  refine aY (G:=j6 c) (fun q=>⟨(jk::rN c::.fn fu [.p (.ptr cs1)]::j4 (.one (.sl 5016 1 0 (n*c))::.one (.sl 5016 0 0 n)::rN i::j4 (jk::jk::jk::.one (.sl 5016 0 0 n)::rN n::rN i::j16 (j4 (jk::jk::rN c::rN q.i::j4 (j4 (j4 (jk::jk::jk::[])))))))),Hm [(5016,Ac 5016 n c (i+1) (part g i q.i))]⟩) (fun q=>c-q.i) ⟨0,by omega⟩ ?_ ?_
  ·refine aE ⟨rfl,trivial⟩ ?_;simp[wk]
  rintro⟨j,hj⟩;simp only;by_cases hm2:j<c
  ·have hS:=hf i j hm hm2;have hk:i*c+j<n*c:=by omega
   have g1:=aU (fl c (part g i j)) hk;have g2:=JD (n:=n) (c:=c) (part g i j) (v:=g i j) hm hm2;refine aD fun _ K=>?_;simp(disch:=omega) only[kd];apply K
   refine bG rfl ?_;refine aF (aK ?_);refine aD fun _ K=>?_;simp only[kd];apply K
   simp only[Ac];refine ef be [⟨8,_,_,_,hS⟩] [] (by kernel_rfl) fun _ K=>?_;simp(disch:=omega) only[kd,tZ,aa,t3,fZ,g1,Fw,g2];apply K
   show bo _ _ _ _;refine aL fun _ K=>?_;simp(disch:=omega) only[kd,aP];apply K
   refine⟨⟨j+1,by omega⟩,by simp only;omega,aE ⟨?_,trivial⟩ ?_⟩
   ·show[_,_]=[_,_];rw[qo fun a b _ _=>jH g i j a b]
   simp[wk]
  have hjc:j=c:=by omega
  subst hjc;refine aD fun _ K=>?_;simp(disch:=omega) only[kd];apply K
  refine bT rfl ?_;show bo _ _ _ _;refine aL fun _ K=>?_;simp(disch:=omega) only[kd,aP];apply K
  refine⟨⟨i+1,by omega⟩,by simp only;omega,aE ⟨?_,trivial⟩ ?_⟩
  ·show[_,_]=[_,_];rw[qo fun a b _ hb=>lF g i a b hb]
  simp[wk]
 have hin:i=n:=by omega
 subst hin;refine aD fun _ K=>?_;simp(disch:=omega) only[kd];apply K
 refine bT rfl ?_;show bo _ _ _ _;refine aD fun _ K=>?_;simp only[kd];apply K
 refine bo.weak ((bZ 5016 (F8 rfl)).trans (aE (tm:=(j4 (jk::jk::bJ (bs i c g)::j16 (j16 (j16 (j4 ([]))))))) (l:=[]) trivial ?_)) ?_
 ·have e:=Le (c:=c) (H:=Hm [(5016,Ac 5016 i c i (part g i 0))]) hc1 rfl;rw[eg fun a b ha _=>jS g a b ha]at e;simp[wk];exact e.symm
 (refine aH ⟨.inr rfl,aJ rfl ?_ rfl⟩;simp(disch:=omega) only[kd,Tryz.results146,bJ])
theorem NS (fu:FuncId) (cs1:List PV) (b:Nat) (ty:TypeId) (cs:List PV) (n c:Nat) (g:FF) (hn1:1<=n) (hn:n<=16) (hc1:1<=c) (hc:c<=16)
  (hf: ∀i j,i<n->j<c->CallT Tryz.prog b ty fu [.raw (.int .i64 (i:Int)),.raw (.int .i64 (j:Int)),.one (.p (.ptr cs1)),.raw (.pointer (some ⟨b,0,none⟩))] cs ⟨[],tZ (g i j)⟩ cs):
  CallT Tryz.prog b ty 146 [.raw (.int .i64 (n:Int)),.raw (.int .i64 (c:Int)),.fn fu [.p (.ptr cs1),.p (.raw (.pointer (some ⟨b,0,none⟩)))]] cs ⟨[],bJ (bs n c g)⟩ cs:=by
 have hN:n*c<=256:=az (Nat.mul_le_mul hn hc) (by omega);have e0:IntKind.i64.wrap ((n:Int)*(c:Int))=((n*c:Nat):Int):=by rw[<- Int.natCast_mul];exact aP (by omega) (by omega)
 refine ns Tryz.func146 rfl (by kernel_rfl) ?_;rw[Tryz.ntmps146];refine aT fun _ K=>?_;simp only[kd,aa,ae];apply K
 refine aT fun _ K=>?_;simp(disch:=omega) only[kd,aa,e0];apply K
 refine aT fun _ K=>?_;simp(disch:=omega) only[kd,aa,ab];apply K
 refine eo.weak ((fo 14).trans ((fo 16).trans ((xo 16 14 5016 (oa:=⟨84,1,Eh 5016 n c 0⟩) (oe:=⟨42,2,lc fZ (bE (n*c) (fl c (part g 0 0)))⟩) ?_ ?_ rfl (Co _ _ _ _) (fb _ _ _) (by omega) (by omega) (by omega)).trans (aE (tm:=(jk::rN c::.fn fu [.p (.ptr cs1),.p (.raw (.pointer (some ⟨b,0,none⟩)))]::j4 (.one (.sl 5016 1 0 (n*c))::.one (.sl 5016 0 0 n)::j16 (j16 (j16 (jk::jk::[])))))) (l:=[(5016,Ac 5016 n c 0 (part g 0 0))]) ⟨rfl,trivial⟩ ?_)))) ?_
 ·exact Cp 5016 n c
 ·exact F9 n c g
 ·simp[wk,MP,rV]
 simp only[Ac];refine cX (aT fun _ K=>?_);simp only[kd,aa];apply K;refine jM (G:=j6 n) (fun q=>⟨(jk::rN c::.fn fu [.p (.ptr cs1),.p (.raw (.pointer (some ⟨b,0,none⟩)))]::j4 (.one (.sl 5016 1 0 (n*c))::.one (.sl 5016 0 0 n)::j4 (j4 (.one (.sl 5016 0 0 n)::rN n::rN q.i::j16 (j16 (j4 (jk::jk::jk::[]))))))),Hm [(5016,Ac 5016 n c q.i (part g q.i 0))]⟩) (fun _=>cs) (fun q=>n-q.i) ⟨0,by omega⟩ ?_ rfl ?_
 ·refine aE ⟨rfl,trivial⟩ ?_;simp[wk]
 rintro⟨i,hi⟩;simp only;by_cases hm:i<n
 ·have k1:i*c<(i+1)*c:=by rw[Nat.add_mul];omega
  have k2:(i+1)*c<=n*c:=Nat.mul_le_mul_right _ hm;have k3:(i+1)*c-i*c=c:=by rw[Nat.add_mul];omega
  have e1:IntKind.i64.wrap ((i:Int)*(c:Int))=((i*c:Nat):Int):=by rw[<- Int.natCast_mul];exact aP (by omega) (by omega)
  have e2:IntKind.i64.wrap (((i:Int)+1)*(c:Int))=(((i+1)*c:Nat):Int):=by
   have:((i:Int)+1)*(c:Int)=(((i+1)*c:Nat):Int):=by rw[Int.natCast_mul];rfl
   rw[this];exact aP (by omega) (by omega)
  have t1:=kE (d:=5016) (n:=n) (c:=c) (i:=i) hm;rw[if_neg (Nat.lt_irrefl i)]at t1;have t2:=F7 (d:=5016) (n:=n) (c:=c) (i:=i);have t3:=kE (d:=5016) (n:=n) (c:=c) (i:=i+1) (k:=i) hm;rw[if_pos (Nat.lt_succ_self i)]at t3;refine aT fun _ K=>?_;simp(disch:=omega) only[kd];apply K
  refine rI rfl ?_;refine cX (db ?_);refine aT fun _ K=>?_;simp only[kd];apply K
  simp only[Ac];refine aT fun _ K=>?_;simp(disch:=omega) only[kd,aa,e1,aP,e2,k1,k2,ah,k3,t1,t2];apply K
  refine aT fun _ K=>?_;simp(disch:=omega) only[kd,aa,t3];apply K
  refine jM (G:=j6 c) (fun q=>⟨(jk::rN c::.fn fu [.p (.ptr cs1),.p (.raw (.pointer (some ⟨b,0,none⟩)))]::j4 (.one (.sl 5016 1 0 (n*c))::.one (.sl 5016 0 0 n)::rN i::j4 (jk::jk::jk::.one (.sl 5016 0 0 n)::rN n::rN i::j16 (j4 (jk::jk::rN c::rN q.i::j4 (j4 (j4 (jk::jk::jk::[])))))))),Hm [(5016,Ac 5016 n c (i+1) (part g i q.i))]⟩) (fun _=>cs) (fun q=>c-q.i) ⟨0,by omega⟩ ?_ rfl ?_
  ·refine aE ⟨rfl,trivial⟩ ?_;simp[wk]
  rintro⟨j,hj⟩;simp only;by_cases hm2:j<c
  ·have hS:=hf i j hm hm2;have hk:i*c+j<n*c:=by omega
   have g1:=aU (fl c (part g i j)) hk;have g2:=JD (n:=n) (c:=c) (part g i j) (v:=g i j) hm hm2;refine aT fun _ K=>?_;simp(disch:=omega) only[kd];apply K
   refine rI rfl ?_;refine cX (db ?_);refine aT fun _ K=>?_;simp only[kd];apply K
   simp only[Ac];refine l5 be 8 hS [] [] (by kernel_rfl) (by kernel_rfl) (by rfl) (by rfl) fun _ K=>?_;simp(disch:=omega) only[kd,tZ,aa,t3,fZ,g1,Fw,g2];apply K
   show eo _ _ _ _ _ _ _;refine dp fun _ K=>?_;simp(disch:=omega) only[kd,aP];apply K
   refine⟨⟨j+1,by omega⟩,by simp only;omega,aE ⟨?_,trivial⟩ ?_,rfl⟩
   ·show[_,_]=[_,_];rw[qo fun a b _ _=>jH g i j a b]
   simp[wk]
  have hjc:j=c:=by omega
  subst hjc;refine aT fun _ K=>?_;simp(disch:=omega) only[kd];apply K
  refine rH rfl ?_;show eo _ _ _ _ _ _ _;refine dp fun _ K=>?_;simp(disch:=omega) only[kd,aP];apply K
  refine⟨⟨i+1,by omega⟩,by simp only;omega,aE ⟨?_,trivial⟩ ?_,rfl⟩
  ·show[_,_]=[_,_];rw[qo fun a b _ hb=>lF g i a b hb]
  simp[wk]
 have hin:i=n:=by omega
 subst hin;refine aT fun _ K=>?_;simp(disch:=omega) only[kd];apply K
 refine rH rfl ?_;show eo _ _ _ _ _ _ _;refine aT fun _ K=>?_;simp only[kd];apply K
 refine eo.weak ((bZ 5016 (F8 rfl)).trans (aE (tm:=(j4 (jk::jk::bJ (bs i c g)::j16 (j16 (j16 (j4 ([]))))))) (l:=[]) trivial ?_)) ?_
 ·have e:=Le (c:=c) (H:=Hm [(5016,Ac 5016 i c i (part g i 0))]) hc1 rfl;rw[eg fun a b ha _=>jS g a b ha]at e;simp[wk];exact e.symm
 (refine oq ⟨.inr rfl,rfl,aJ rfl ?_ rfl⟩;simp(disch:=omega) only[kd,Tryz.results146,bJ])
theorem d8 (l:List Nat) (hb:l.length<=1073741824):CallC Tryz.prog 145 [bA l] ⟨[],bA (dZ l)⟩:=by
 refine aI Tryz.func145 rfl (by kernel_rfl) ?_;rw[Tryz.ntmps145];refine aD fun _ K=>?_;simp only[kd,bA,ae];apply K
 refine aF (aY (G:={n:Nat//n<=l.length/\dZ l=dZ (l.take n)}) (fun n=>⟨(bA (l.take n.1)::j16 (j4 ([]))),Hm []⟩) (fun n=>n.1) ⟨l.length,Nat.le_refl _,by simp⟩ ?_ ?_)
 ·refine aE trivial ?_;simp[wk]
 rintro⟨n,hn,hT⟩;simp only;have hlen:(l.take n).length=n:=by simp;omega
 by_cases h0:0<n
 ·obtain⟨a,ha⟩:=getElem?_of_lt (l:=l) (k:=n-1) (by omega);have e1:((n:Int)-1).toNat=n-1:=by omega
  have ha2:(l.take n)[n-1]?=some a:=by rw[List.getElem?_take,if_pos (by omega),ha]
  have htk:l.take n=l.take (n-1)++[a]:=by
   have:=List.take_succ_eq_append_getElem (i:=n-1) (l:=l) (by omega);rw[show n-1+1=n by omega]at this;rw[this,(List.getElem?_eq_some_iff.1 ha).2]
  refine aF (aD fun _ K=>?_);simp(disch:=omega) only[kd,aa,bA,hlen,aP,e1,ha2];apply K;refine bW rfl (fun hz=>aM ?_) (fun hz=>bN ?_)
  ·have hz':a=0:=by simpa using hz
   refine aK ?_;refine aL fun _ K=>?_;simp(disch:=omega) only[kd,aa,hlen,aP,e1,DH y5];apply K
   refine⟨⟨n-1,by omega,?_⟩,by simp only;omega,aE trivial ?_⟩
   ·rw[hT,htk,hz',og]
   simp[wk,List.take_take,Nat.min_eq_left (show n-1<=n by omega)]
  have hz':a≠0:=by intro e;simp[e]at hz
  have hfin:dZ l=l.take n:=by rw[hT,htk,yp hz']
  show bo _ _ _ _;refine aD fun _ K=>?_;simp(disch:=omega) only[kd];apply K
  (refine aH ⟨.inr rfl,aJ rfl ?_ rfl⟩;simp(disch:=omega) only[kd,Tryz.results145,bA,hfin])
 have hn0:n=0:=by omega
 subst hn0;have hfin:dZ l=l.take 0:=by rw[hT];simp[dZ]
 refine aF (aD fun _ K=>?_);simp(disch:=omega) only[kd,aa,bA];apply K;refine bW rfl (fun hz=>by cases hz) (fun hz=>bN ?_);show bo _ _ _ _;refine aD fun _ K=>?_;simp only[kd];apply K
 (refine aH ⟨.inr rfl,aJ rfl ?_ rfl⟩;simp(disch:=omega) only[kd,Tryz.results145,bA,hfin])
theorem eR (neg:Bool) (n:Nat):CallC Tryz.prog 141 [.raw (.bool neg),bA (aS n)] ⟨[],tZ (gA neg n)⟩:=by
 by_cases h0:n=0
 ·subst h0;rw[cH,show tZ (gA neg 0)= .agg [.p (.raw (.bool false)),.p (.sl (ls fU []))] by
   have:gA neg 0=0:=by cases neg<;>rfl
   simp[this,tZ,cH]]
  refine aI Tryz.func141 rfl (by kernel_rfl) ?_;rw[Tryz.ntmps141];refine aD fun _ K=>?_;simp(disch:=omega) only[kd,bA,aa,ae];apply K
  refine aF (aD fun _ K=>?_);simp(disch:=omega) only[kd,aa];apply K;refine aX rfl ?_;refine aD fun _ K=>?_;simp(disch:=omega) only[kd,aa];apply K
  refine aH ⟨.inr rfl,?_⟩;refine⟨_,fo 4,qW (d:=1000) rfl ?_ rfl⟩;simp(disch:=omega) only[kd,Tryz.results141,zH,zO,Ar,CA,aa]
 have hl:=fQ (n:=n);have hl':(aS n).length≠0:=by omega
 rw[show tZ (gA neg n)= .agg [.p (.raw (.bool neg)),.p (.sl (ls fU (aS n)))] by
  have:decide (0<n)=true:=by simp;omega
  simp[tZ,nW,zY,this]]
 refine aI Tryz.func141 rfl (by kernel_rfl) ?_;rw[Tryz.ntmps141];refine aD fun _ K=>?_;simp(disch:=omega) only[kd,bA,aa,ae];apply K
 refine aF (aD fun _ K=>?_);simp(disch:=omega) only[kd,aa];apply K;refine aR rfl (aM ?_);show bo _ _ _ _;refine aD fun _ K=>?_;simp(disch:=omega) only[kd,aa,ah];apply K
 (refine aH ⟨.inr rfl,aJ rfl ?_ rfl⟩;simp(disch:=omega) only[kd,Tryz.results141,aa])
theorem uG {P:Program} {f:FuncId} {args:List TV} {r:TV} (hc:callable P f=true) (h: ∀(X:Nat->Prop) (w:World) (vs:Array Value),(∀b,X b->b<w.heap.size)->vs.size=args.length->
  (∀(j:Nat) t,args[j]?=some t-> ∃v:Value,vs[j]?=some v/\t.rel (fun _ _=>none) (fun _=>[]) X w v)->Calls P f vs w fun e w'=> ∃v,e= .returned v/\(∀ρ H Y,(∀b,Y b->b<w.heap.size)->r.rel ρ H Y w' v)/\Ext w w'):CallC P f args ⟨[],r⟩:=
 ⟨hc,fun X w vs hX hvs ha=>(h X w vs hX hvs ha).mono fun e w' ⟨v,h1,h2,h3⟩=>⟨v,h1,fun _ _=>none,Fm h3 hX,h2 _ _ _ (fun b hb=>by
  rcases hb with hb|⟨a,r,o,c,ho,hr⟩
  ·exact hX b hb
  cases hr)⟩⟩
end Go.Proofs.YtfgeomlagfomgaaGreatDoor
