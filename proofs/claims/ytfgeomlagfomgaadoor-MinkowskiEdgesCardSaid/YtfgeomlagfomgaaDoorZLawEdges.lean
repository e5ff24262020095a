/-
  Proved: the statement MinkowskiEdgesSaid: for every input the law quadformlaw14.MinkowskiEdges returns true, and each argument reads afterwards as it read before. The package variable holds what the program says.
-/
import Derived.Test.YtfgeomlagfomgaaDoorP18
import Derived.Test.YtfgeomlagfomgaaDoorCards
import Derived.Test.YtfgeomlagfomgaaDoorTie
import Derived.SevenTiedAt
import Derived.ProofKit
import Derived.Stop.Joined
set_option linter.all false
set_option maxRecDepth 100000
set_option maxHeartbeats 64000000
namespace Go.Proofs.YtfgeomlagfomgaaDoor
open Go.RowKit
section
open Go.ChangeShapes Go.WideShapes Go.ChangeAt Go.WideMaps Go.WideElems Go.RowKit
theorem jt (os:Os) (started:os.Started) (H:Type) (enc:TypeId×Value->H):
  ReturnsInHanded {} Tryd.checked os 3 .any (fun w args=>(Rows.minkowskiEdgesSpec.pre enc Tryd.prog Tryd.f3 [] false w args/\laidMetH Tryd.prog uk w)/\sizedMet enc Tryd.prog Tryd.f3 (OpenSpec.ofChange Rows.minkowskiEdgesSpec) false w args) (Rows.minkowskiEdgesSpec.post enc Tryd.prog Tryd.f3 false true false false):=by
 refine returnsInHanded_of_change_and (C:=Tryd.checked) (X:=fun w _=>laidMetH Tryd.prog uk w) (fun _ _ _ hh h=>h.of_heap hh) Tryd.ownKnob_ started (by kernel_rfl) Tryd.func3
  (ChangeSpec.witness_shaped (enc:=enc) (C:=Tryd.checked) (os:=os) (X:=fun w _=>laidMetH Tryd.prog uk w) false (World.doorLaid Tryd.prog 400 os) #[.int .i8 0,.int .u8 0] 8 rfl (World.shaped_of_RefB (by kernel_rfl) (by kernel_rfl)) (by kernel_rfl) (by kernel_rfl) (by kernel_rfl) (BA os _)) ?_
 intro W base args ds gs before hval0 hW hcnd hsz0 hL _;have hval: ∀(j:Nat) t v,Tryd.f3.params[j]?=some t->args[j]?=some v->Value.okWide Tryd.prog W .any base t v:=hval0;have hW':=hW;obtain⟨p,q,hA0,hV,rfl,hfz,hnd⟩:=hW;have hA:DataW.TrodAll enc Tryd.prog W 0 (fun _=>true) true Tryd.f3.params.toList args.toList ds p:=hA0;rw[Tryd.params3]at hA hval;obtain⟨v0,vs0,d0,ds0,p0,q0,hargs,rfl,rfl,h0,r0⟩:=trodAll_cons hA;obtain⟨v1,vs1,d1,ds1,p1,q1,rfl,rfl,rfl,h1,r1⟩:=trodAll_cons r0;obtain⟨rfl,rfl,rfl⟩:=trodAll_nil r1;obtain rfl:args= #[v0,v1]:=by cases args;simp_all
 obtain⟨rfl,rfl⟩:=trodVars_none hV;obtain⟨a0,rfl,rfl,rfl,w0⟩:=open_int Tryd.underlying22 (hval 0 22 v0 rfl rfl) h0;obtain⟨a1,rfl,rfl,rfl,w1⟩:=open_int Tryd.underlying5 (hval 1 5 v1 rfl rfl) h1;clear hA0 hval0 hsz0;obtain⟨bn1,hbn1⟩: ∃bn:Nat,a1=(bn:Int):=⟨a1.toNat,by have:=vw w1;omega⟩;have hw1:=vw w1;subst hbn1;refine((wE a0 bn1 (DJ w0) (by omega)).law (tN hL) (vs:= #[.int .i8 a0,.int .u8 (bn1:Int)]) rfl (IF (vs:=[.int .i8 a0,.int .u8 (bn1:Int)]) rfl (fun j t v ht hv=>by
  match j,ht,hv with
  |0,ht,hv=>simp at ht hv;subst ht;subst hv;exact bS.raw _ rfl
  |1,ht,hv=>simp at ht hv;subst ht;subst hv;exact bS.raw _ rfl
  |j+2,ht,hv=>simp at ht))).mono fun e W' ⟨he,bel0⟩=>?_
 have bel:Below W.heap.size W W':=bel0;subst he;exact⟨_,rfl,_,_,_,[],_,[],hW',trodAll_mk1 (shut_bool Tryd.underlying4 _),(trodAll_cons_mk (shut_int Tryd.underlying22 w0) (trodAll_cons_mk (shut_int Tryd.underlying5 w1) trodAll_mk0)),rfl,bel.frame _,fun h=>by cases h⟩
theorem fC:Rows.MinkowskiEdgesSaid:=
 OpenClaim.holds_of_wide 3 Tryd.f3 rfl rfl rfl rfl rfl rfl rfl ⟨rfl,rfl,rfl,rfl,rfl⟩ rfl rfl rfl rfl rfl (by kernel_rfl) Tryd.func3 (by kernel_rfl)
  (of_decide_eq_true (by kernel_rfl)) (by unfold Func.isWrapper;first|(rw[if_pos (by decide+kernel)];kernel_rfl)|(rw[if_neg (by decide+kernel)];exact⟨rfl,rfl⟩))
  (fun os started H enc _=>jt os started H enc)
#print axioms fC
/-- The tied card. -/
theorem minkowskiEdges_card:Rows.MinkowskiEdgesCardSaid:=
 Claim7.holds_tied_plain_at .later [] [.data] true (true, "866a3ec57facf9c2e7ee1f5fd41f35d11d774f08898dbda7a0afd8fa7ff401a9") false
  fC (fun _ h=>by cases h) (by kernel_rfl) (fun _ h=>by cases h) minkowskiEdges_row_tie rfl ⟨rfl,rfl⟩ (by kernel_rfl) rfl
  (fun f fn hf hfn=>by
   obtain rfl : f = 3 := Option.some.inj ((show Tryd.prog.funcNamed "quadform/quadformlaw14.MinkowskiEdges" = some 3 by kernel_rfl).symm.trans hf) |>.symm;obtain rfl:fn=Tryd.f3:=(Option.some.inj (Tryd.func3.symm.trans hfn)).symm;exact⟨by kernel_rfl,fun j t ht=>by
    rw[Tryd.params3]at ht;have hm:t∈[22,5]:=by simpa using Array.mem_of_getElem? ht
    have hall:([22,5].all fun u=>!Tryd.prog.wantsStandIn u)=true:=by kernel_rfl
    exact(show Tryd.prog.wantsStandIn t=false by simpa using List.all_eq_true.1 hall t hm)⟩)
  (by kernel_rfl)
#print axioms minkowskiEdges_card
end
end Go.Proofs.YtfgeomlagfomgaaDoor
