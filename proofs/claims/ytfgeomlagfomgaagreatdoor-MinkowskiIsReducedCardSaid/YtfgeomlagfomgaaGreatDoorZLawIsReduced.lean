/-
  Proved: the statement MinkowskiIsReducedSaid: for every input the law quadformlaw14.MinkowskiIsReduced returns true, and each argument reads afterwards as it read before. The package variable holds what the program says.
-/
import Derived.Test.YtfgeomlagfomgaaGreatDoorP22
import Derived.Test.YtfgeomlagfomgaaGreatDoorCards
import Derived.Test.YtfgeomlagfomgaaGreatDoorTie
import Derived.SevenTiedAt
import Derived.ProofKit
import Derived.Stop.Joined
set_option linter.all false
set_option maxRecDepth 100000
set_option maxHeartbeats 64000000
namespace Go.Proofs.YtfgeomlagfomgaaGreatDoor
open Go.RowKit
section
open Go.ChangeShapes Go.WideShapes Go.ChangeAt Go.WideMaps Go.WideElems Go.RowKit
theorem kd (os:Os) (started:os.Started) (H:Type) (enc:TypeId×Value->H):
  ReturnsInHanded {} Tryz.checked os 3 .any (fun w args=>(Rows.minkowskiIsReducedSpec.pre enc Tryz.prog Tryz.f3 [] false w args/\laidMetH Tryz.prog xv w)/\sizedMet enc Tryz.prog Tryz.f3 (OpenSpec.ofChange Rows.minkowskiIsReducedSpec) false w args) (Rows.minkowskiIsReducedSpec.post enc Tryz.prog Tryz.f3 false true false false):=by
 refine returnsInHanded_of_change_and (C:=Tryz.checked) (X:=fun w _=>laidMetH Tryz.prog xv w) (fun _ _ _ hh h=>h.of_heap hh) Tryz.ownKnob_ started (by kernel_rfl) Tryz.func3
  (ChangeSpec.witness_shaped (enc:=enc) (C:=Tryz.checked) (os:=os) (X:=fun w _=>laidMetH Tryz.prog xv w) false (World.doorLaid Tryz.prog 400 os) #[.slice none 0 0,.agg #[.int .i8 0,.int .i8 0,.int .i8 0,.int .i8 0,.int .i8 0,.int .i8 0,.int .i8 0,.int .i8 0,.int .i8 0,.int .i8 0,.int .i8 0,.int .i8 0,.int .i8 0,.int .i8 0,.int .i8 0,.int .i8 0],.int .u8 0] 8 rfl (World.shaped_of_RefB (by kernel_rfl) (by kernel_rfl)) (by kernel_rfl) (by kernel_rfl) (by kernel_rfl) (Ef os _)) ?_
 intro W base args ds gs before hval0 hW hcnd hsz0 hL _
 have hval: ∀(j:Nat) t v,Tryz.f3.params[j]?=some t->args[j]?=some v->Value.okWide Tryz.prog W .any base t v:=hval0
 have hW':=hW
 obtain⟨p,q,hA0,hV,rfl,hfz,hnd⟩:=hW
 have hA:DataW.TrodAll enc Tryz.prog W 0 (fun _=>true) true Tryz.f3.params.toList args.toList ds p:=hA0
 rw[Tryz.params3]at hA hval
 obtain⟨v0,vs0,d0,ds0,p0,q0,hargs,rfl,rfl,h0,r0⟩:=trodAll_cons hA
 obtain⟨v1,vs1,d1,ds1,p1,q1,rfl,rfl,rfl,h1,r1⟩:=trodAll_cons r0
 obtain⟨v2,vs2,d2,ds2,p2,q2,rfl,rfl,rfl,h2,r2⟩:=trodAll_cons r1
 obtain⟨rfl,rfl,rfl⟩:=trodAll_nil r2
 obtain rfl:args= #[v0,v1,v2]:=by cases args;simp_all
 obtain⟨rfl,rfl⟩:=trodVars_none hV
 obtain⟨a0,len0,cap0,rfl⟩:=okWide_slice Tryz.underlying22 (hval 0 22 v0 rfl rfl)
 have k0:=h0
 have lt0: ∀x∈p0,x.block<W.heap.size:=by obtain⟨m,hm⟩:=k0;exact DataW.trod_lt m _ _ _ hm
 obtain⟨z0,rfl,g01,g02,g03,g04⟩:=Fd Tryz.underlying22 Tryz.underlying27 Tryz.underlying2 (by kernel_rfl) (by kernel_rfl) h0
 have k1:=h1
 have lt1: ∀x∈p1,x.block<W.heap.size:=by obtain⟨m,hm⟩:=k1;exact DataW.trod_lt m _ _ _ hm
 obtain⟨A1,rA1⟩:=Fb Tryz.underlying25 Tryz.underlying24 Tryz.underlying23 (by kernel_rfl) (by kernel_rfl) (by kernel_rfl) (hval 1 25 v1 rfl rfl) h1
 obtain⟨a2,rfl,rfl,rfl,w2⟩:=open_int Tryz.underlying5 (hval 2 5 v2 rfl rfl) h2
 clear hA0 hval0 hsz0
 obtain⟨bn2,hbn2⟩: ∃bn:Nat,a2=(bn:Int):=⟨a2.toNat,by have:=yz w2;omega⟩
 have hw2:=yz w2
 subst hbn2
 refine((rZ z0 A1 bn2 (by omega)).law (w6 hL) (vs:= #[.slice a0 z0.length cap0,v1,.int .u8 (bn2:Int)]) rfl (K4 (vs:=[.slice a0 z0.length cap0,v1,.int .u8 (bn2:Int)]) rfl (fun j t v ht hv=>by
  match j,ht,hv with
  |0,ht,hv=>simp at ht hv;subst ht;subst hv;exact Iq g01 (by unfold maxLen at g02;omega) g03
  |1,ht,hv=>simp at ht hv;subst ht;subst hv;exact rA1
  |2,ht,hv=>simp at ht hv;subst ht;subst hv;exact ee.raw _ rfl
  |j+3,ht,hv=>simp at ht))).mono fun e W' ⟨he,bel0⟩=>?_
 have bel:Below W.heap.size W W':=bel0
 subst he
 exact⟨_,rfl,_,_,_,[],_,[],hW',trodAll_mk1 (shut_bool Tryz.underlying4 _),(trodAll_cons_mk (Below.trod Tryz.laidOut_ (by kernel_rfl) (of_decide_eq_true (by kernel_rfl)) k0 bel lt0) (trodAll_cons_mk (Below.trod Tryz.laidOut_ (by kernel_rfl) (of_decide_eq_true (by kernel_rfl)) k1 bel lt1) (trodAll_cons_mk (shut_int Tryz.underlying5 w2) trodAll_mk0))),rfl,bel.frame _,fun h=>by cases h⟩
theorem iD:Rows.MinkowskiIsReducedSaid:=
 OpenClaim.holds_of_wide 3 Tryz.f3 rfl rfl rfl rfl rfl rfl rfl ⟨rfl,rfl,rfl,rfl,rfl⟩ rfl rfl rfl rfl rfl (by kernel_rfl) Tryz.func3 (by kernel_rfl)
  (of_decide_eq_true (by kernel_rfl)) (by unfold Func.isWrapper;first|(rw[if_pos (by decide+kernel)];kernel_rfl)|(rw[if_neg (by decide+kernel)];exact⟨rfl,rfl⟩))
  (fun os started H enc _=>kd os started H enc)
#print axioms iD
/-- The tied card. -/
theorem minkowskiIsReduced_card:Rows.MinkowskiIsReducedCardSaid:=
 Claim7.holds_tied_plain_at .later [] [.data] true (true, "b370a838ee78542826e78cbca499d325b4268683991bfe0a4729bbd0218e4133") false
  iD (fun _ h=>by cases h) (by kernel_rfl) (fun _ h=>by cases h) minkowskiIsReduced_row_tie rfl ⟨rfl,rfl⟩ (by kernel_rfl) rfl
  (fun f fn hf hfn=>by
   obtain rfl : f = 3 := Option.some.inj ((show Tryz.prog.funcNamed "quadform/quadformlaw14.MinkowskiIsReduced" = some 3 by kernel_rfl).symm.trans hf) |>.symm
   obtain rfl:fn=Tryz.f3:=(Option.some.inj (Tryz.func3.symm.trans hfn)).symm
   exact⟨by kernel_rfl,fun j t ht=>by
    rw[Tryz.params3]at ht
    have hm:t∈[22,25,5]:=by simpa using Array.mem_of_getElem? ht
    have hall:([22,25,5].all fun u=>!Tryz.prog.wantsStandIn u)=true:=by kernel_rfl
    exact(show Tryz.prog.wantsStandIn t=false by simpa using List.all_eq_true.1 hall t hm)⟩)
  (by kernel_rfl)
#print axioms minkowskiIsReduced_card
end
end Go.Proofs.YtfgeomlagfomgaaGreatDoor
