/-
  Proved: the statement MinkowskiErrorsSaid: for every input the law quadformlaw14.MinkowskiErrors returns true, and each argument reads afterwards as it read before. The package variable holds what the program says.
-/
import Derived.Test.YtfgeomlagfomgaaGreatDoorS25
import Derived.Test.YtfgeomlagfomgaaGreatDoorCards
import Derived.Test.YtfgeomlagfomgaaGreatDoorTie
import Derived.SevenTiedAt
import Derived.ProofKit
import Derived.Stop.Joined
set_option linter.all false
set_option maxRecDepth 100000
set_option maxHeartbeats 64000000
open Nat renaming reduceAdd → aa
open List renaming replicate → ae
namespace Go.Proofs.YtfgeomlagfomgaaGreatDoor
open Go.RowKit
theorem Mo {M:List (List Int)} (hM:bA M=true):M=bu M.length M.length (ent M)/\1<=M.length/\RedR (ent M) M.length:=by
 obtain⟨h1,h8,hsq,hr⟩:=(dw M).1 hM;have e:M=bu M.length M.length (ent M):=iZ fun r hr=>by
  obtain⟨i,hi⟩:=List.mem_iff_getElem?.1 hr;exact hsq.at_ hi
 exact⟨e,h1,hr⟩
def Qf (M:List (List Int)):Int:=if bA M=true then(if M.length<=4 then 0 else 7)else 6
theorem Lz (M:List (List Int)) (hl:M.length<=1000000): ∃G T d,
  CallG Tryz.prog 0 138 18 [bi M] fi ⟨[],yM G T (Qf M)⟩/\
  CallG Tryz.prog 0 138 29 [bi M] fi ⟨[],Nu d (Qf M)⟩:=by
 unfold Qf;by_cases h1:bA M=true
 ·rw[if_pos h1];by_cases h2:M.length<=4
  ·rw[if_pos h2];obtain⟨e,hn1,hr⟩:=Mo h1;obtain⟨R,_,_,cR⟩:=rL hn1 h2 hr;rw[<- e]at cR;exact⟨_,_,_,cR,IK _ _ _ _ h2 cR⟩
  rw[if_neg h2];have cR:=z8 M h1 (by omega) hl;exact⟨_,_,_,cR,z7 _ _ _ _ (by decide) cR⟩
 rw[if_neg h1];have cR:=Cd M (by simpa using h1);exact⟨_,_,_,cR,z7 _ _ _ _ (by decide) cR⟩
abbrev Rq (X Y:List (List Int)):TV:= .one (.p (.sl [[.sl (ls (fR fI) X)],[.sl (ls (fR fI) Y)]]))
structure Q4 where
 i:Nat
 hi:i<=2
theorem zR (M A T:List (List Int)) (dim kind:Nat) (L B:List Int) (hM:MI M) (hA:MI A) (hT:MI T) (hL:I8 L) (hdim:dim<=255) (hkind:kind<=255):
  CallG Tryz.prog 0 138 12 [bi M,bi A,bi T,tL dim kind L B] fi ⟨[],.raw (.bool true)⟩:=by
 have cA:=Dk;by_cases h1:20<M.length
 ·have h1':(20:Int)<(M.length:Int):=by omega
  refine cY Tryz.func12 rfl (by kernel_rfl) ?_;rw[Tryz.ntmps12];refine aN fun _ K=>?_;simp(disch:=omega) only[kd,bi,tL,aa,ae];apply K
  refine bx (aN fun _ K=>?_);simp(disch:=omega) only[kd,aa,h1',reduceCtorEq];apply K;refine dJ rfl ?_;refine bN [⟨0,_,_,_,cA,rfl⟩] [] [] fun _ K=>?_;simp(disch:=omega) only[kd,di.a];apply K
  (refine cz ⟨.inr rfl,rfl,aH rfl ?_ rfl⟩;simp(disch:=omega) only[kd,Tryz.results12])
 have h1': ¬(20:Int)<(M.length:Int):=by omega
 by_cases h2:20<A.length
 ·have h2':(20:Int)<(A.length:Int):=by omega
  refine cY Tryz.func12 rfl (by kernel_rfl) ?_;rw[Tryz.ntmps12];refine aN fun _ K=>?_;simp(disch:=omega) only[kd,bi,tL,aa,ae];apply K
  refine bx (aN fun _ K=>?_);simp(disch:=omega) only[kd,aa,h1',h2',reduceCtorEq];apply K;refine dJ rfl ?_;refine bN [⟨0,_,_,_,cA,rfl⟩] [] [] fun _ K=>?_;simp(disch:=omega) only[kd,di.a];apply K
  (refine cz ⟨.inr rfl,rfl,aH rfl ?_ rfl⟩;simp(disch:=omega) only[kd,Tryz.results12])
 have h2': ¬(20:Int)<(A.length:Int):=by omega
 by_cases h3:20<T.length
 ·have h3':(20:Int)<(T.length:Int):=by omega
  refine cY Tryz.func12 rfl (by kernel_rfl) ?_;rw[Tryz.ntmps12];refine aN fun _ K=>?_;simp(disch:=omega) only[kd,bi,tL,aa,ae];apply K
  refine bx (aN fun _ K=>?_);simp(disch:=omega) only[kd,aa,h1',h2',h3'];apply K;refine dJ rfl ?_;refine bN [⟨0,_,_,_,cA,rfl⟩] [] [] fun _ K=>?_;simp(disch:=omega) only[kd,di.a];apply K
  (refine cz ⟨.inr rfl,rfl,aH rfl ?_ rfl⟩;simp(disch:=omega) only[kd,Tryz.results12])
 have h3': ¬(20:Int)<(T.length:Int):=by omega
 obtain⟨n,hn⟩: ∃n,n=1+dim%7:=⟨_,rfl⟩;have hn1:1<=n:=by omega
 have hn7:n<=7:=by have:=Nat.mod_lt dim (show 0<7 by omega);omega
 obtain⟨h,hr,cF⟩:=GS dim kind L B 7 n hL hdim hkind (by omega) (by omega) hn;rw[show((7:Nat):Int)=7 from rfl]at cF;have hF:=GV hn1 (by omega) hr;have lF:=aV n n h;generalize bu n n h=N at*
 refine cY Tryz.func12 rfl (by kernel_rfl) ?_;rw[Tryz.ntmps12];refine aN fun _ K=>?_;simp(disch:=omega) only[kd,bi,tL,aa,ae];apply K
 refine bx (aN fun _ K=>?_);simp(disch:=omega) only[kd,aa,h1',h2',h3'];apply K;refine dp rfl (dC ?_);show dy _ _ _ _ _ _ _;refine bx (cX [⟨2,_,_,_,cF⟩] [] fun _ K=>?_);simp(disch:=omega) only[kd,tL,bi,aa,Nat.reduceMul,Nat.reduceLeDiff];apply K;refine d8 (G:=Q4) (fun g=>⟨(jk::bi A::bi T::j16 (j4 (j4 (j4 (jk::jk::jk::Rq M N::.raw (.int .i64 2)::rN g.i::j16 (j16 (j4 (j4 (jk::[]))))))))),Hm []⟩) (fun _=>fi) (fun g=>2-g.i) ⟨0,by omega⟩ ?_ rfl ?_
 ·refine aF trivial ?_;simp[wk]
 rintro⟨i,hi⟩;simp only;by_cases hm:i<2
 ·have hm':(i:Int)<2:=by omega
  obtain⟨X,hg,hX,hXl⟩: ∃X,([[.sl (ls (fR fI) M)],[.sl (ls (fR fI) N)]]:List (List PV))[i]?=some [.sl (ls (fR fI) X)]/\MI X/\X.length<=20:=by
   have:i=0\/i=1:=by omega
   rcases this with rfl|rfl
   ·exact⟨M,rfl,hM,by omega⟩
   exact⟨N,rfl,hF,by omega⟩
  obtain⟨G,Tr,d,cR,cD⟩:=Lz X (by omega);have cI:=rt X hX;have cV:=FA X A T hT (by omega) (by omega);have cW:=wO X A T hX hA hT;rw[<- KE]at cW;generalize yP X A T=e at*
  have er:=show Qf X=(if bA X=true then(if X.length<=4 then 0 else 7)else 6)from rfl
  by_cases r1:bA X=true
  ·rw[if_pos r1]at er;rw[r1]at cI;by_cases r2:X.length<=4
   ·rw[if_pos r2]at er;rw[er]at cR cD;have r2': ¬(4:Int)<(X.length:Int):=by omega
    refine aN fun _ K=>?_;simp(disch:=omega) only[kd,bi,hm'];apply K
    refine fB rfl ?_;refine bx (bU ?_);refine aN fun _ K=>?_;simp(disch:=omega) only[kd,aa,hg];apply K
    refine bN [⟨1,_,_,_,cR,rfl⟩] [] [] fun _ K=>?_;simp(disch:=omega) only[kd,bi,yM,di.a,aa];apply K
    refine bN [⟨1,_,_,_,cD,rfl⟩] [] [] fun _ K=>?_;simp(disch:=omega) only[kd,bi,Nu,di.a,aa];apply K
    refine aN fun _ K=>?_;simp only[kd];apply K
    refine bx (cX [⟨1,_,_,_,cI⟩] [] fun _ K=>?_);simp only[kd,bi,aa];apply K;refine dp rfl ?_;refine aN fun _ K=>?_;simp only[kd,aa,r2'];apply K
    refine dp rfl (dC ?_);show dy _ _ _ _ _ _ _;refine bN [⟨12,_,_,_,cV,rfl⟩] [⟨16,_,_,_,cW⟩] [] fun _ K=>?_;simp(disch:=omega) only[kd,bi,di.a,aa,Nat.reduceBEq];apply K
    refine dp rfl (dC ?_);show dy _ _ _ _ _ _ _;refine b9 fun _ K=>?_;simp(disch:=omega) only[kd,aP];apply K
    refine⟨⟨i+1,by omega⟩,by simp only;omega,aF trivial ?_,rfl⟩;simp[wk]
   rw[if_neg r2]at er;rw[er]at cR cD;have r2':(4:Int)<(X.length:Int):=by omega
   refine aN fun _ K=>?_;simp(disch:=omega) only[kd,bi,hm'];apply K
   refine fB rfl ?_;refine bx (bU ?_);refine aN fun _ K=>?_;simp(disch:=omega) only[kd,aa,hg];apply K
   refine bN [⟨1,_,_,_,cR,rfl⟩] [] [] fun _ K=>?_;simp(disch:=omega) only[kd,bi,yM,di.a,aa];apply K
   refine bN [⟨1,_,_,_,cD,rfl⟩] [] [] fun _ K=>?_;simp(disch:=omega) only[kd,bi,Nu,di.a,aa];apply K
   refine aN fun _ K=>?_;simp only[kd];apply K
   refine bx (cX [⟨1,_,_,_,cI⟩] [] fun _ K=>?_);simp only[kd,bi,aa];apply K;refine dp rfl ?_;refine aN fun _ K=>?_;simp(disch:=omega) only[kd,aa,r2'];apply K
   refine dJ rfl ?_;refine b9 fun _ K=>?_;simp only[kd];apply K
   show dy _ _ _ _ _ _ _;refine bN [⟨12,_,_,_,cV,rfl⟩] [⟨16,_,_,_,cW⟩] [] fun _ K=>?_;simp(disch:=omega) only[kd,bi,di.a,aa,Nat.reduceBEq];apply K
   refine dp rfl (dC ?_);show dy _ _ _ _ _ _ _;refine b9 fun _ K=>?_;simp(disch:=omega) only[kd,aP];apply K
   refine⟨⟨i+1,by omega⟩,by simp only;omega,aF trivial ?_,rfl⟩;simp[wk]
  rw[if_neg r1]at er;rw[er]at cR cD;rw[show bA X=false by simpa using r1]at cI;refine aN fun _ K=>?_;simp(disch:=omega) only[kd,bi,hm'];apply K
  refine fB rfl ?_;refine bx (bU ?_);refine aN fun _ K=>?_;simp(disch:=omega) only[kd,aa,hg];apply K
  refine bN [⟨1,_,_,_,cR,rfl⟩] [] [] fun _ K=>?_;simp(disch:=omega) only[kd,bi,yM,di.a,aa];apply K
  refine bN [⟨1,_,_,_,cD,rfl⟩] [] [] fun _ K=>?_;simp(disch:=omega) only[kd,bi,Nu,di.a,aa];apply K
  refine aN fun _ K=>?_;simp only[kd];apply K
  refine bx (cX [⟨1,_,_,_,cI⟩] [] fun _ K=>?_);simp only[kd,bi,aa];apply K;refine dJ rfl ?_;refine b9 fun _ K=>?_;simp only[kd];apply K
  show dy _ _ _ _ _ _ _;refine bN [⟨12,_,_,_,cV,rfl⟩] [⟨16,_,_,_,cW⟩] [] fun _ K=>?_;simp(disch:=omega) only[kd,bi,di.a,aa,Nat.reduceBEq];apply K
  refine dp rfl (dC ?_);show dy _ _ _ _ _ _ _;refine b9 fun _ K=>?_;simp(disch:=omega) only[kd,aP];apply K
  refine⟨⟨i+1,by omega⟩,by simp only;omega,aF trivial ?_,rfl⟩;simp[wk]
 have hm': ¬(i:Int)<2:=by omega
 refine aN fun _ K=>?_;simp only[kd,bi,hm'];apply K
 refine iM rfl ?_;show dy _ _ _ _ _ _ _;refine bN [⟨0,_,_,_,cA,rfl⟩] [] [] fun _ K=>?_;simp(disch:=omega) only[kd,di.a];apply K
 (refine cz ⟨.inr rfl,rfl,aH rfl ?_ rfl⟩;simp(disch:=omega) only[kd,Tryz.results12])
section
open Go.ChangeShapes Go.WideShapes Go.ChangeAt Go.WideMaps Go.WideElems Go.RowKit
theorem lL (os:Os) (started:os.Started) (H:Type) (enc:TypeId×Value->H):
  ReturnsInHanded {} Tryz.checked os 12 .any (fun w args=>(Rows.minkowskiErrorsSpec.pre enc Tryz.prog Tryz.f12 [] false w args/\laidMetH Tryz.prog rF w)/\sizedMet enc Tryz.prog Tryz.f12 (OpenSpec.ofChange Rows.minkowskiErrorsSpec) false w args) (Rows.minkowskiErrorsSpec.post enc Tryz.prog Tryz.f12 false true false false):=by
 refine returnsInHanded_of_change_and (C:=Tryz.checked) (X:=fun w _=>laidMetH Tryz.prog rF w) (fun _ _ _ hh h=>h.of_heap hh) Tryz.ownKnob_ started (by kernel_rfl) Tryz.func12
  (ChangeSpec.witness_shaped (enc:=enc) (C:=Tryz.checked) (os:=os) (X:=fun w _=>laidMetH Tryz.prog rF w) false (World.doorLaid Tryz.prog 400 os) #[.slice none 0 0,.slice none 0 0,.slice none 0 0,.agg #[.int .u8 0,.int .u8 0,.slice none 0 0,.slice none 0 0]] 8 rfl (World.shaped_of_RefB (by kernel_rfl) (by kernel_rfl)) (by kernel_rfl) (by kernel_rfl) (by kernel_rfl) (zy os _)) ?_
 intro W base args ds gs before hval0 hW hcnd hsz0 hL _;have hval: ∀(j:Nat) t v,Tryz.f12.params[j]?=some t->args[j]?=some v->Value.okWide Tryz.prog W .any base t v:=hval0;have hW':=hW;obtain⟨p,q,hA0,hV,rfl,hfz,hnd⟩:=hW;have hA:DataW.TrodAll enc Tryz.prog W 0 (fun _=>true) true Tryz.f12.params.toList args.toList ds p:=hA0;rw[Tryz.params12]at hA hval;obtain⟨v0,vs0,d0,ds0,p0,q0,hargs,rfl,rfl,h0,r0⟩:=trodAll_cons hA;obtain⟨v1,vs1,d1,ds1,p1,q1,rfl,rfl,rfl,h1,r1⟩:=trodAll_cons r0;obtain⟨v2,vs2,d2,ds2,p2,q2,rfl,rfl,rfl,h2,r2⟩:=trodAll_cons r1;obtain⟨v3,vs3,d3,ds3,p3,q3,rfl,rfl,rfl,h3,r3⟩:=trodAll_cons r2;obtain⟨rfl,rfl,rfl⟩:=trodAll_nil r3;obtain rfl:args= #[v0,v1,v2,v3]:=by cases args;simp_all
 obtain⟨rfl,rfl⟩:=trodVars_none hV;obtain⟨a0,len0,cap0,rfl⟩:=okWide_slice Tryz.underlying22 (hval 0 22 v0 rfl rfl);have k0:=h0;have lt0: ∀x∈p0,x.block<W.heap.size:=by obtain⟨m,hm⟩:=k0;exact DataW.trod_lt m _ _ _ hm
 obtain⟨z0,rfl,g01,g02,g03,g04⟩:=uu Tryz.underlying22 Tryz.underlying27 Tryz.underlying2 (by kernel_rfl) (by kernel_rfl) h0;obtain⟨a1,len1,cap1,rfl⟩:=okWide_slice Tryz.underlying22 (hval 1 22 v1 rfl rfl);have k1:=h1;have lt1: ∀x∈p1,x.block<W.heap.size:=by obtain⟨m,hm⟩:=k1;exact DataW.trod_lt m _ _ _ hm
 obtain⟨z1,rfl,g11,g12,g13,g14⟩:=uu Tryz.underlying22 Tryz.underlying27 Tryz.underlying2 (by kernel_rfl) (by kernel_rfl) h1;obtain⟨a2,len2,cap2,rfl⟩:=okWide_slice Tryz.underlying22 (hval 2 22 v2 rfl rfl);have k2:=h2;have lt2: ∀x∈p2,x.block<W.heap.size:=by obtain⟨m,hm⟩:=k2;exact DataW.trod_lt m _ _ _ hm
 obtain⟨z2,rfl,g21,g22,g23,g24⟩:=uu Tryz.underlying22 Tryz.underlying27 Tryz.underlying2 (by kernel_rfl) (by kernel_rfl) h2;have k3:=h3;have lt3: ∀x∈p3,x.block<W.heap.size:=by obtain⟨m,hm⟩:=k3;exact DataW.trod_lt m _ _ _ hm
 obtain⟨u30,u31,u32,u33,y30,y31,y32,y33,n3,rfl,rfl,rfl,q30,q31,q32,q33⟩:=Go.Joins.open_agg4 Tryz.underlying32 (by kernel_rfl) (by kernel_rfl) (hval 3 32 v3 rfl rfl) h3;obtain⟨dim3,rfl,hd3⟩:=lR Tryz.underlying5 q30;obtain⟨kind3,rfl,hk3⟩:=lR Tryz.underlying5 q31;obtain⟨L3,rL3,hL3⟩:=lQ Tryz.underlying30 Tryz.underlying23 (by kernel_rfl) q32;obtain⟨B3,rB3,hB3⟩:=lQ Tryz.underlying30 Tryz.underlying23 (by kernel_rfl) q33;clear hA0 hval0 hsz0;refine((zR z0 z1 z2 dim3 kind3 L3 B3 (fun r hr z hz=>rl (g04 r hr z hz)) (fun r hr z hz=>rl (g14 r hr z hz)) (fun r hr z hz=>rl (g24 r hr z hz)) hL3 hd3 hk3).law (rz hL) (vs:= #[.slice a0 z0.length cap0,.slice a1 z1.length cap1,.slice a2 z2.length cap2,.agg #[.int .u8 (dim3:Int),.int .u8 (kind3:Int),u32,u33]]) rfl (Nr (vs:=[.slice a0 z0.length cap0,.slice a1 z1.length cap1,.slice a2 z2.length cap2,.agg #[.int .u8 (dim3:Int),.int .u8 (kind3:Int),u32,u33]]) rfl (fun j t v ht hv=>by
  match j,ht,hv with
  |0,ht,hv=>simp at ht hv;subst ht;subst hv;exact ye g01 (by unfold maxLen at g02;omega) g03
  |1,ht,hv=>simp at ht hv;subst ht;subst hv;exact ye g11 (by unfold maxLen at g12;omega) g13
  |2,ht,hv=>simp at ht hv;subst ht;subst hv;exact ye g21 (by unfold maxLen at g22;omega) g23
  |3,ht,hv=>simp at ht hv;subst ht;subst hv;exact NC rL3 rB3
  |j+4,ht,hv=>simp at ht))).mono fun e W' ⟨he,bel0⟩=>?_
 have bel:Below W.heap.size W W':=bel0;subst he;exact⟨_,rfl,_,_,_,[],_,[],hW',trodAll_mk1 (shut_bool Tryz.underlying4 _),(trodAll_cons_mk (Below.trod Tryz.laidOut_ (by kernel_rfl) (of_decide_eq_true (by kernel_rfl)) k0 bel lt0) (trodAll_cons_mk (Below.trod Tryz.laidOut_ (by kernel_rfl) (of_decide_eq_true (by kernel_rfl)) k1 bel lt1) (trodAll_cons_mk (Below.trod Tryz.laidOut_ (by kernel_rfl) (of_decide_eq_true (by kernel_rfl)) k2 bel lt2) (trodAll_cons_mk (Below.trod Tryz.laidOut_ (by kernel_rfl) (of_decide_eq_true (by kernel_rfl)) k3 bel lt3) trodAll_mk0)))),rfl,bel.frame _,fun h=>by cases h⟩
theorem gZ:Rows.MinkowskiErrorsSaid:=
 OpenClaim.holds_of_wide 12 Tryz.f12 rfl rfl rfl rfl rfl rfl rfl ⟨rfl,rfl,rfl,rfl,rfl⟩ rfl rfl rfl rfl rfl (by kernel_rfl) Tryz.func12 (by kernel_rfl)
  (of_decide_eq_true (by kernel_rfl)) (by unfold Func.isWrapper;first|(rw[if_pos (by decide+kernel)];kernel_rfl)|(rw[if_neg (by decide+kernel)];exact⟨rfl,rfl⟩))
  (fun os started H enc _=>lL os started H enc)
#print axioms gZ
/-- The tied card. -/
theorem minkowskiErrors_card:Rows.MinkowskiErrorsCardSaid:=
 Claim7.holds_tied_plain_at .later [] [.data] true (true, "b370a838ee78542826e78cbca499d325b4268683991bfe0a4729bbd0218e4133") false
  gZ (fun _ h=>by cases h) (by kernel_rfl) (fun _ h=>by cases h) minkowskiErrors_row_tie rfl ⟨rfl,rfl⟩ (by kernel_rfl) rfl
  (fun f fn hf hfn=>by
   obtain rfl : f = 12 := Option.some.inj ((show Tryz.prog.funcNamed "quadform/quadformlaw14.MinkowskiErrors" = some 12 by kernel_rfl).symm.trans hf) |>.symm;obtain rfl:fn=Tryz.f12:=(Option.some.inj (Tryz.func12.symm.trans hfn)).symm;exact⟨by kernel_rfl,fun j t ht=>by
    rw[Tryz.params12]at ht;have hm:t∈[22,22,22,32]:=by simpa using Array.mem_of_getElem? ht
    have hall:([22,22,22,32].all fun u=>!Tryz.prog.wantsStandIn u)=true:=by kernel_rfl
    exact(show Tryz.prog.wantsStandIn t=false by simpa using List.all_eq_true.1 hall t hm)⟩)
  (by kernel_rfl)
#print axioms minkowskiErrors_card
end
end Go.Proofs.YtfgeomlagfomgaaGreatDoor
