/-
  Proved: the statement MinkowskiIsReducedSaid: for every input the law quadformlaw14.MinkowskiIsReduced returns true, and each argument reads afterwards as it read before. The package variable holds what the program says.
-/
import Derived.Test.YtfgeomlagfomgaaGreatDoorR23
import Derived.OpenShut
import Derived.Test.YtfgeomlagfomgaaGreatDoorCards
import Derived.Test.YtfgeomlagfomgaaGreatDoorTie
import Derived.SevenTiedAt
import Derived.ProofKit
import Derived.Stop.Joined
set_option linter.all false
set_option maxRecDepth 100000
set_option maxHeartbeats 64000000
open Nat renaming reduceAdd → aa
open Nat renaming reduceEqDiff → ab
namespace Go.Proofs.YtfgeomlagfomgaaGreatDoor
open Go.RowKit
def Og (A:Nat->Int):List AV:=[.p (.raw (.int .i8 (A 0))),.p (.raw (.int .i8 (A 1))),.p (.raw (.int .i8 (A 2))),.p (.raw (.int .i8 (A 3))),.p (.raw (.int .i8 (A 4))),.p (.raw (.int .i8 (A 5))),.p (.raw (.int .i8 (A 6))),.p (.raw (.int .i8 (A 7))),
 .p (.raw (.int .i8 (A 8))),.p (.raw (.int .i8 (A 9))),.p (.raw (.int .i8 (A 10))),.p (.raw (.int .i8 (A 11))),.p (.raw (.int .i8 (A 12))),.p (.raw (.int .i8 (A 13))),.p (.raw (.int .i8 (A 14))),.p (.raw (.int .i8 (A 15)))]
theorem xD (A:Nat->Int):(Og A).length=16:=rfl
theorem zu (A:Nat->Int):(Og A).all isPure=true:=rfl
theorem Hq (A:Nat->Int) {k:Nat} (h:k<16):(Og A).drop k= .p (.raw (.int .i8 (A k)))::(Og A).drop (k+1):=by
 have hk:k=0\/k=1\/k=2\/k=3\/k=4\/k=5\/k=6\/k=7\/k=8\/k=9\/k=10\/k=11\/k=12\/k=13\/k=14\/k=15:=by omega
 rcases hk with rfl|rfl|rfl|rfl|rfl|rfl|rfl|rfl|rfl|rfl|rfl|rfl|rfl|rfl|rfl|rfl<;>rfl
abbrev tA (A:Nat->Int):TV:= .agg (Og A)
abbrev Ls (A:Nat->Int):List OObj:=[⟨25,16,[Og A]⟩]
structure Ru (n:Nat) where
 i:Nat
 hi:i<=n
 f:Nat->Nat->Int
structure Rv (i:Nat) where
 j:Nat
 hj:j<=i+1
 f:Nat->Nat->Int
theorem uf (M:List (List Int)) (A:Nat->Int) (d:Nat) (hd:d<=255):
  CallG Tryz.prog 0 138 3 [slI M,tA A,.raw (.int .u8 (d:Int))] je ⟨[],.raw (.bool true)⟩:=by
 have cA:=Dw;by_cases hM:20<M.length
 ·have hM':(20:Int)<(M.length:Int):=by omega
  refine dq Tryz.func3 rfl (by kernel_rfl) ?_;rw[Tryz.ntmps3];refine aM fun _ K=>?_;simp(disch:=omega) only[kd,slI,tA,aa,List.replicate,zu,xD];apply K
  refine bx (aM fun _ K=>?_);simp(disch:=omega) only[kd,aa,hM'];apply K;refine dU rfl ?_;refine cy [⟨0,_,_,_,cA,rfl⟩] [] [] fun _ K=>?_;simp(disch:=omega) only[kd,dI.a];apply K
  (refine cX ⟨.inr rfl,rfl,aG rfl ?_ rfl⟩;simp(disch:=omega) only[kd,Tryz.results3])
 obtain⟨n,hn⟩: ∃n,n=1+d%4:=⟨_,rfl⟩;have hn1:1<=n:=by omega
 have hn4:n<=4:=by have:=Nat.mod_lt d (show 0<4 by omega);omega
 obtain⟨r,hr⟩: ∃r:Bool,r=true↔ox M:=by
  classical
  exact⟨decide (ox M),by simp⟩
 have c1:=jg M r hr;have c2:=jj M r hr;have e1:IntKind.i64.wrap (d:Int)=(d:Int):=aO (by omega) (by omega);have e2:Int.tmod (d:Int) 4=((d%4:Nat):Int):=(Int.ofNat_tmod d 4).symm;have e3:IntKind.i64.wrap (1+((d%4:Nat):Int))=(n:Int):=by rw[show(1:Int)+((d%4:Nat):Int)=(n:Int) by omega];exact aO (by omega) (by omega)
 refine dq Tryz.func3 rfl (by kernel_rfl) ?_;rw[Tryz.ntmps3];refine aM fun _ K=>?_;simp(disch:=omega) only[kd,slI,tA,aa,List.replicate,zu,xD];apply K
 refine bx (aM fun _ K=>?_);simp(disch:=omega) only[kd,aa];apply K;refine cJ rfl (eB ?_);show de _ _ _ _ _ _ _;refine de.weak (aE (tm:=(slI M::jk::.raw (.int .u8 (d:Int))::jk::.one (.ptr 4 0 0 0)::j16 (j16 (j16 (j16 (j16 (j16 (j4 (j4 (jk::[])))))))))) (l:=[(4,Ls A)]) ⟨rfl,trivial⟩ (by simp[wk])) ?_;refine aM fun _ K=>?_;simp(disch:=omega) only[kd,aa,slI,e1,e2,e3,ab];apply K
 refine bx (aM fun _ K=>?_);simp only[kd,aa];apply K;refine fq (G:=jP n) (fun g=>⟨(slI M::jk::jk::jk::.one (.ptr 4 0 0 0)::jk::jk::.one (.sl 19 0 0 n)::j4 (j4 (j4 (jk::rN n::rN g.i::j16 (j16 (j16 (j16 (j16 (j4 (jk::jk::jk::[])))))))))),Hm [(4,Ls A),(19,kI 19 n n g.i (fun _ _=>0))]⟩) (fun _=>je) (fun g=>n-g.i) ⟨0,by omega⟩ ?_ rfl ?_
 ·refine aE ⟨rfl,?_,trivial⟩ ?_
  ·show[_]=_;simp[kI,fO,mat]
  simp[wk]
 rintro⟨i,hi⟩;simp only;by_cases hm:i<n
 ·have k1:=oV (i:=i) (n:=n) 19 n hm;have k2:=i4 (i:=i) (n:=n) 19 n hi;have k3:=aU i n (fun _ _=>(0:Int));have k4:=lL (i:=i) (n:=n) (c:=n) 19 (fun _ _=>(0:Int)) hm (fun j hj=>rfl);refine aM fun _ K=>?_;simp(disch:=omega) only[kd,slI];apply K
  refine iX rfl ?_;refine bx (bV ?_);refine aM fun _ K=>?_;simp only[kd];apply K
  refine cd fun _ K=>?_;simp(disch:=omega) only[kd,aa,ab,k1,Nat.reduceLeDiff,List.length_replicate,List.all_replicate,k3,k4,Nat.reduceBEq];apply K
  show de _ _ _ _ _ _ _;refine de.weak (aE (tm:=(slI M::jk::jk::jk::.one (.ptr 4 0 0 0)::jk::jk::.one (.sl 19 0 0 n)::j4 (j4 (j4 (jk::rN n::rN i::j16 (j16 (j16 (j16 (j16 (j4 (jk::jk::jk::[]))))))))))) (l:=[(4,Ls A),(19,kI 19 n n (i+1) (fun _ _=>0))]) ⟨rfl,?_,trivial⟩ (by simp[wk])) ?_
  ·first|exact k4|rfl
  refine cd fun _ K=>?_;simp(disch:=omega) only[kd,slI,aO];apply K
  refine⟨⟨i+1,by omega⟩,by simp only;omega,aE ⟨rfl,rfl,trivial⟩ ?_,rfl⟩;simp[wk]
 have hin:i=n:=by omega
 rw[hin,lK];refine aM fun _ K=>?_;simp(disch:=omega) only[kd,slI];apply K
 refine lw rfl ?_;show de _ _ _ _ _ _ _;clear hm hi hin;refine bx (aM fun _ K=>?_);simp only[kd,aa];apply K;refine fq (G:=Ru n) (fun g=>⟨(slI M::jk::jk::jk::.one (.ptr 4 0 0 0)::jk::jk::.one (.sl 19 0 0 n)::j16 (j4 (j4 (jk::rN n::rN g.i::j16 (j16 (j16 (j16 (j4 (j4 (jk::jk::jk::[])))))))))),Hm [(4,Ls A),(19,mxI 19 n n g.f)]⟩) (fun _=>je) (fun g=>n-g.i) ⟨0,by omega,fun _ _=>0⟩ ?_ rfl ?_
 ·refine aE ⟨rfl,rfl,trivial⟩ ?_;simp[wk]
 rintro⟨i,hi,f⟩;simp only;by_cases hm:i<n
 ·have g1:=bK (n:=n) (i:=i) 19 n hm;have hi4:i<4:=by omega
  refine aM fun _ K=>?_;simp(disch:=omega) only[kd,slI];apply K
  refine iX rfl ?_;refine bx (bV ?_);refine aM fun _ K=>?_;simp only[kd];apply K
  refine aM fun _ K=>?_;simp only[kd];apply K
  refine fq (G:=Rv i) (fun g=>⟨(slI M::jk::jk::jk::.one (.ptr 4 0 0 0)::jk::jk::.one (.sl 19 0 0 n)::jk::rN i::rN g.j::j16 (j4 (jk::jk::rN n::rN i::j16 (j16 (j16 (j16 (j4 (j4 (jk::jk::jk::[]))))))))),Hm [(4,Ls A),(19,mxI 19 n n g.f)]⟩) (fun _=>je) (fun g=>i+1-g.j) ⟨0,by omega,f⟩ ?_ rfl ?_
  ·refine aE ⟨rfl,rfl,trivial⟩ ?_;simp[wk]
  rintro⟨j,hj,q⟩;simp only;by_cases hji:j<=i
  ·have hj4:j<4:=by omega
   have g2:=bK (n:=n) (i:=j) 19 n (by omega);have d1:=Hq A (show i*4+j*1<16 by omega);have hji':(j:Int)<=(i:Int):=by omega
   have e4:IntKind.i64.wrap ((j:Int)+1)=((j+1:Nat):Int):=by rw[show(j:Int)+1=((j+1:Nat):Int) by omega];exact aO (by omega) (by omega)
   have r1:=bS (n:=n) n q (i:=i) hm;have q1:=aR (q i) (show j<n by omega);refine bx (aM fun _ K=>?_);simp(disch:=omega) only[kd,aa,slI,hji'];apply K;refine dU rfl (eB ?_);refine bx (bV ?_);refine ef aW (by kernel_rfl) fun _ K=>?_;simp(disch:=omega) only[kd,aa,ab,g1,hi4,hj4,d1,r1,q1,da];apply K
   refine de.weak (aE (tm:=(slI M::jk::jk::jk::.one (.ptr 4 0 0 0)::jk::jk::.one (.sl 19 0 0 n)::jk::rN i::rN j::j16 (j4 (jk::jk::rN n::rN i::j16 (j16 (j16 (j16 (j4 (j4 (jk::jk::jk::[])))))))))) (l:=[(4,Ls A),(19,mxI 19 n n (upd q i j (IntKind.i64.wrap (A (i*4+j*1)))))]) ⟨rfl,rfl,trivial⟩ (by simp[wk])) ?_;generalize upd q i j (IntKind.i64.wrap (A (i*4+j*1)))=q2;have r2:=bS (n:=n) n q2 (i:=i) hm;have q3:=aR (q2 i) (show j<n by omega);by_cases hij:i=j
   ·subst hij;refine bx (aM fun _ K=>?_);simp(disch:=omega) only[kd,aa,slI];apply K;refine dU rfl ?_;refine gA aW (by kernel_rfl) fun _ K=>?_;simp(disch:=omega) only[kd,aa,ab,g1,hi4,d1,r2,q3,da];apply K
    show de _ _ _ _ _ _ _;obtain⟨q4,hq4⟩: ∃q4,q4=upd q2 i i (IntKind.i64.wrap (1+Int.tmod (IntKind.i64.wrap (IntKind.u8.wrap (A (i*4+i*1)))) 8)):=⟨_,rfl⟩;refine de.weak (aE (tm:=(slI M::jk::jk::jk::.one (.ptr 4 0 0 0)::jk::jk::.one (.sl 19 0 0 n)::jk::rN i::rN i::j16 (j4 (jk::jk::rN n::rN i::j16 (j16 (j16 (j16 (j4 (j4 (jk::jk::jk::[])))))))))) (l:=[(4,Ls A),(19,mxI 19 n n q4)]) ⟨rfl,by rw[hq4];rfl,trivial⟩ (by simp[wk])) ?_;clear hq4;have r3:=bS (n:=n) n q4 (i:=i) hm;have r4:=bS (n:=n) n q4 (i:=i) (by omega);have q5:=aR (q4 i) (show i<n by omega);have q6:=aR (q4 i) hm;refine gA aW (by kernel_rfl) fun _ K=>?_;simp(disch:=omega) only[kd,aa,slI,ab,g1,r3,q5,da];apply K
    show de _ _ _ _ _ _ _;refine cd fun _ K=>?_;simp only[kd,aa,e4];apply K
    refine⟨⟨i+1,by omega,upd q4 i i (q4 i i)⟩,by simp only;omega,aE ⟨rfl,rfl,trivial⟩ ?_,rfl⟩;simp[wk]
   have hij': ¬(i:Int)=(j:Int):=by omega
   refine bx (aM fun _ K=>?_);simp only[kd,aa,slI,hij'];apply K;refine cJ rfl ?_;refine cd fun _ K=>?_;simp(disch:=omega) only[kd,aa,ab,g1,r2,q3,da];apply K
   show de _ _ _ _ _ _ _;obtain⟨q4,hq4⟩: ∃q4,q4=upd q2 i j (Int.tmod (q2 i j) 4):=⟨_,rfl⟩;refine de.weak (aE (tm:=(slI M::jk::jk::jk::.one (.ptr 4 0 0 0)::jk::jk::.one (.sl 19 0 0 n)::jk::rN i::rN j::j16 (j4 (jk::jk::rN n::rN i::j16 (j16 (j16 (j16 (j4 (j4 (jk::jk::jk::[])))))))))) (l:=[(4,Ls A),(19,mxI 19 n n q4)]) ⟨rfl,by rw[hq4];rfl,trivial⟩ (by simp[wk])) ?_;clear hq4;have r3:=bS (n:=n) n q4 (i:=i) hm;have r4:=bS (n:=n) n q4 (i:=j) (by omega);have q5:=aR (q4 i) (show j<n by omega);have q6:=aR (q4 j) hm;refine gA aW (by kernel_rfl) fun _ K=>?_;simp(disch:=omega) only[kd,aa,slI,ab,g2,g1,r3,q5,r4,q6,da];apply K
   show de _ _ _ _ _ _ _;refine cd fun _ K=>?_;simp only[kd,aa,e4];apply K
   refine⟨⟨j+1,by omega,upd q4 j i (q4 i j)⟩,by simp only;omega,aE ⟨rfl,rfl,trivial⟩ ?_,rfl⟩;simp[wk]
  have hji': ¬(j:Int)<=(i:Int):=by omega
  refine bx (aM fun _ K=>?_);simp only[kd,aa,slI,hji'];apply K;refine cJ rfl (ta ?_);show de _ _ _ _ _ _ _;refine cd fun _ K=>?_;simp(disch:=omega) only[kd,aO];apply K
  refine⟨⟨i+1,by omega,q⟩,by simp only;omega,aE ⟨rfl,rfl,trivial⟩ ?_,rfl⟩;simp[wk]
 refine aM fun _ K=>?_;simp(disch:=omega) only[kd,slI];apply K
 refine lw rfl ?_;show de _ _ _ _ _ _ _;refine de.weak ((bC 19 (bU (d:=19) (n:=n) (c:=n) (f:=f) rfl)).trans (aE (tm:=(slI M::j4 (jk::jk::slI (mat n n f)::j16 (j16 (j16 (j16 (j16 (j16 (j4 (jk::jk::[])))))))))) (l:=[]) trivial (by
  simp[wk]
  (repeat' apply And.intro)<;>first|rfl|exact(gD (H:=Hm [(4,Ls A),(19,mxI 19 n n f)]) (d:=19) (n:=n) (c:=n) (f:=f) rfl).symm))) ?_
 obtain⟨r',hr'⟩: ∃r:Bool,r=true↔ox (mat n n f):=by
  classical
  exact⟨decide (ox (mat n n f)),by simp⟩
 have c3:=jg (mat n n f) r' hr';have c4:=jj (mat n n f) r' hr';generalize mat n n f=N at*
 refine cy [⟨1,_,_,_,c1,rfl⟩,⟨7,_,_,_,c3,rfl⟩,⟨13,_,_,_,cA,rfl⟩] [⟨3,_,_,_,c2⟩,⟨9,_,_,_,c4⟩] [] fun _ K=>?_;simp(disch:=omega) only[kd,slI,dI.a,aa,Nat.reduceBEq];apply K
 (refine cX ⟨.inr rfl,rfl,aG rfl ?_ rfl⟩;simp(disch:=omega) only[kd,Tryz.results3])
section
open Go.ChangeShapes Go.WideShapes Go.ChangeAt Go.RowKit
theorem Lm (A:Nat->Int) {k:Nat} (h:k<16):(Og A)[k]?=some (.p (.raw (.int .i8 (A k)))):=by
 have hk:k=0\/k=1\/k=2\/k=3\/k=4\/k=5\/k=6\/k=7\/k=8\/k=9\/k=10\/k=11\/k=12\/k=13\/k=14\/k=15:=by omega
 rcases hk with rfl|rfl|rfl|rfl|rfl|rfl|rfl|rfl|rfl|rfl|rfl|rfl|rfl|rfl|rfl|rfl<;>rfl
theorem Jv {H:Type} {enc:TypeId×Value->H} {P:Program} {W:World} {base b0:Nat} {sp:Nat->Bool} {r:Reach} {held:Bool} {t t4 t1:TypeId} {v:Value} {d:DataW H} {p:List MemPlace}
  (ht:P.underlying t=some (.array 4 t4)) (ht4:P.underlying t4=some (.array 4 t1)) (ht1:P.underlying t1=some (.int .i8)) (hc:P.cellsOf t=16) (hc4:P.cellsOf t4=4) (hc1:P.cellsOf t1=1)
  (hv:Value.okWide P W r b0 t v) (h:DataW.Trod enc P W base sp held t v d p): ∃A:Nat->Int,(tA A).rel (fun _ _=>none) (fun _=>[]) (fun _=>False) W v:=by
 unfold Value.okWide at hv;rw[ht]at hv;obtain⟨cs,rfl,hsz,_⟩:=hv;rw[hc]at hsz;obtain⟨fuel,hf⟩:=h;have hf:DataW.trod enc P W base sp held fuel t cs.toList=some (d,p):=hf;obtain⟨xs,m1,rfl,_,hlen,hn,hel⟩:=DataW.trod_array ht hf;have at_: ∀i j,i<4->j<4-> ∃z:Int,cs[i*4+j]?=some (.int .i8 z):=fun i j hi hj=>by
  have h1:=hel i hi;rw[hc4]at h1;obtain⟨y,hy⟩: ∃y,xs[i]?=some y:=⟨xs[i]'(by omega),List.getElem?_eq_getElem (by omega)⟩;rw[hy]at h1;obtain⟨ys,m2,rfl,_,hlen2,hn2,hel2⟩:=DataW.trod_array ht4 h1;have h2:=hel2 j hj;rw[hc1,Nat.mul_one]at h2;obtain⟨y2,hy2⟩: ∃y,ys[j]?=some y:=⟨ys[j]'(by omega),List.getElem?_eq_getElem (by omega)⟩;rw[hy2]at h2;obtain⟨k,e1,_,_⟩:=DataW.trod_int ht1 h2;refine⟨k,?_⟩;have h3:=congrArg (fun l=>l[0]?) e1;simp only[List.getElem?_take,List.getElem?_drop,Nat.add_zero]at h3;rw[if_pos (by omega),if_pos hj]at h3;simpa using h3
 refine⟨fun k=>match cs[k]? with|some (.int _ z)=>z|_=>0,cs,rfl,hsz,fun j x hx=>?_⟩;have hj:j<16:=by
  have:=(List.getElem?_eq_some_iff.1 hx).1;rwa[xD]at this
 rw[Lm _ hj]at hx;injection hx with hx
 subst hx;obtain⟨z,hz⟩:=at_ (j/4) (j%4) (by omega) (by omega);rw[show j/4*4+j%4=j by omega]at hz;refine⟨.int .i8 z,hz,rfl,?_⟩;simp only[hz];exact cz.raw _ rfl
end
section
open Go.ChangeShapes Go.WideShapes Go.ChangeAt Go.WideMaps Go.WideElems Go.RowKit
theorem jQ (os:Os) (started:os.Started) (H:Type) (enc:TypeId×Value->H):
  ReturnsInHanded {} Tryz.checked os 3 .any (fun w args=>(Rows.minkowskiIsReducedSpec.pre enc Tryz.prog Tryz.f3 [] false w args/\laidMetH Tryz.prog rM w)/\sizedMet enc Tryz.prog Tryz.f3 (OpenSpec.ofChange Rows.minkowskiIsReducedSpec) false w args) (Rows.minkowskiIsReducedSpec.post enc Tryz.prog Tryz.f3 false true false false):=by
 refine returnsInHanded_of_change_and (C:=Tryz.checked) (X:=fun w _=>laidMetH Tryz.prog rM w) (fun _ _ _ hh h=>h.of_heap hh) Tryz.ownKnob_ started (by kernel_rfl) Tryz.func3
  (ChangeSpec.witness_shaped (enc:=enc) (C:=Tryz.checked) (os:=os) (X:=fun w _=>laidMetH Tryz.prog rM w) false (World.doorLaid Tryz.prog 400 os) #[.slice none 0 0,.agg #[.int .i8 0,.int .i8 0,.int .i8 0,.int .i8 0,.int .i8 0,.int .i8 0,.int .i8 0,.int .i8 0,.int .i8 0,.int .i8 0,.int .i8 0,.int .i8 0,.int .i8 0,.int .i8 0,.int .i8 0,.int .i8 0],.int .u8 0] 8 rfl (World.shaped_of_RefB (by kernel_rfl) (by kernel_rfl)) (by kernel_rfl) (by kernel_rfl) (by kernel_rfl) (zQ os _)) ?_
 intro W base args ds gs before hval0 hW hcnd hsz0 hL _;have hval: ∀(j:Nat) t v,Tryz.f3.params[j]?=some t->args[j]?=some v->Value.okWide Tryz.prog W .any base t v:=hval0;have hW':=hW;obtain⟨p,q,hA0,hV,rfl,hfz,hnd⟩:=hW;have hA:DataW.TrodAll enc Tryz.prog W 0 (fun _=>true) true Tryz.f3.params.toList args.toList ds p:=hA0;rw[Tryz.params3]at hA hval;obtain⟨v0,vs0,d0,ds0,p0,q0,hargs,rfl,rfl,h0,r0⟩:=trodAll_cons hA;obtain⟨v1,vs1,d1,ds1,p1,q1,rfl,rfl,rfl,h1,r1⟩:=trodAll_cons r0;obtain⟨v2,vs2,d2,ds2,p2,q2,rfl,rfl,rfl,h2,r2⟩:=trodAll_cons r1;obtain⟨rfl,rfl,rfl⟩:=trodAll_nil r2;obtain rfl:args= #[v0,v1,v2]:=by cases args;simp_all
 obtain⟨rfl,rfl⟩:=trodVars_none hV;obtain⟨a0,len0,cap0,rfl⟩:=okWide_slice Tryz.underlying22 (hval 0 22 v0 rfl rfl);have k0:=h0;have lt0: ∀x∈p0,x.block<W.heap.size:=by obtain⟨m,hm⟩:=k0;exact DataW.trod_lt m _ _ _ hm
 obtain⟨z0,rfl,g01,g02,g03,g04⟩:=Jw Tryz.underlying22 Tryz.underlying27 Tryz.underlying2 (by kernel_rfl) (by kernel_rfl) h0;have k1:=h1;have lt1: ∀x∈p1,x.block<W.heap.size:=by obtain⟨m,hm⟩:=k1;exact DataW.trod_lt m _ _ _ hm
 obtain⟨A1,rA1⟩:=Jv Tryz.underlying25 Tryz.underlying24 Tryz.underlying23 (by kernel_rfl) (by kernel_rfl) (by kernel_rfl) (hval 1 25 v1 rfl rfl) h1;obtain⟨a2,rfl,rfl,rfl,w2⟩:=open_int Tryz.underlying5 (hval 2 5 v2 rfl rfl) h2;clear hA0 hval0 hsz0;obtain⟨bn2,hbn2⟩: ∃bn:Nat,a2=(bn:Int):=⟨a2.toNat,by have:=jM w2;omega⟩;have hw2:=jM w2;subst hbn2;refine((uf z0 A1 bn2 (by omega)).law (rF hL) (vs:= #[.slice a0 z0.length cap0,v1,.int .u8 (bn2:Int)]) rfl (NL (vs:=[.slice a0 z0.length cap0,v1,.int .u8 (bn2:Int)]) rfl (fun j t v ht hv=>by
  match j,ht,hv with
  |0,ht,hv=>simp at ht hv;subst ht;subst hv;exact MG g01 (by unfold maxLen at g02;omega) g03
  |1,ht,hv=>simp at ht hv;subst ht;subst hv;exact rA1
  |2,ht,hv=>simp at ht hv;subst ht;subst hv;exact cz.raw _ rfl
  |j+3,ht,hv=>simp at ht))).mono fun e W' ⟨he,bel0⟩=>?_
 have bel:Below W.heap.size W W':=bel0;subst he;exact⟨_,rfl,_,_,_,[],_,[],hW',trodAll_mk1 (shut_bool Tryz.underlying4 _),(trodAll_cons_mk (Below.trod Tryz.laidOut_ (by kernel_rfl) (of_decide_eq_true (by kernel_rfl)) k0 bel lt0) (trodAll_cons_mk (Below.trod Tryz.laidOut_ (by kernel_rfl) (of_decide_eq_true (by kernel_rfl)) k1 bel lt1) (trodAll_cons_mk (shut_int Tryz.underlying5 w2) trodAll_mk0))),rfl,bel.frame _,fun h=>by cases h⟩
theorem gk:Rows.MinkowskiIsReducedSaid:=
 OpenClaim.holds_of_wide 3 Tryz.f3 rfl rfl rfl rfl rfl rfl rfl ⟨rfl,rfl,rfl,rfl,rfl⟩ rfl rfl rfl rfl rfl (by kernel_rfl) Tryz.func3 (by kernel_rfl)
  (of_decide_eq_true (by kernel_rfl)) (by unfold Func.isWrapper;first|(rw[if_pos (by decide+kernel)];kernel_rfl)|(rw[if_neg (by decide+kernel)];exact⟨rfl,rfl⟩))
  (fun os started H enc _=>jQ os started H enc)
#print axioms gk
/-- The tied card. -/
theorem minkowskiIsReduced_card:Rows.MinkowskiIsReducedCardSaid:=
 Claim7.holds_tied_plain_at .later [] [.data] true (true, "b370a838ee78542826e78cbca499d325b4268683991bfe0a4729bbd0218e4133") false
  gk (fun _ h=>by cases h) (by kernel_rfl) (fun _ h=>by cases h) minkowskiIsReduced_row_tie rfl ⟨rfl,rfl⟩ (by kernel_rfl) rfl
  (fun f fn hf hfn=>by
   obtain rfl : f = 3 := Option.some.inj ((show Tryz.prog.funcNamed "quadform/quadformlaw14.MinkowskiIsReduced" = some 3 by kernel_rfl).symm.trans hf) |>.symm;obtain rfl:fn=Tryz.f3:=(Option.some.inj (Tryz.func3.symm.trans hfn)).symm;exact⟨by kernel_rfl,fun j t ht=>by
    rw[Tryz.params3]at ht;have hm:t∈[22,25,5]:=by simpa using Array.mem_of_getElem? ht
    have hall:([22,25,5].all fun u=>!Tryz.prog.wantsStandIn u)=true:=by kernel_rfl
    exact(show Tryz.prog.wantsStandIn t=false by simpa using List.all_eq_true.1 hall t hm)⟩)
  (by kernel_rfl)
#print axioms minkowskiIsReduced_card
end
end Go.Proofs.YtfgeomlagfomgaaGreatDoor
