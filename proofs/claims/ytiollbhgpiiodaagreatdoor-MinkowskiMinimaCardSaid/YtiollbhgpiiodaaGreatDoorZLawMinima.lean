/-
  Proved: the statement MinkowskiMinimaSaid: for every input the law quadformlaw14.MinkowskiMinima returns true, and each argument reads afterwards as it read before. The package variable holds what the program says.
-/
import Derived.Test.YtiollbhgpiiodaaGreatDoorQ24
import Derived.Test.YtiollbhgpiiodaaGreatDoorCards
import Derived.Test.YtiollbhgpiiodaaGreatDoorTie
import Derived.SevenTiedAt
import Derived.ProofKit
import Derived.Stop.Joined
set_option linter.all false
set_option maxRecDepth 100000
set_option maxHeartbeats 64000000
namespace Go.Proofs.YtiollbhgpiiodaaGreatDoor
open Go.RowKit
section
open Go.ChangeShapes Go.WideShapes Go.ChangeAt Go.WideMaps Go.WideElems Go.RowKit
theorem mv (os:Os) (started:os.Started) (H:Type) (enc:TypeId×Value->H):
  ReturnsInHanded {} Tryz.checked os 4 .any (fun w args=>(Rows.minkowskiMinimaSpec.pre enc Tryz.prog Tryz.f4 [] false w args/\laidMetH Tryz.prog BX w)/\sizedMet enc Tryz.prog Tryz.f4 (OpenSpec.ofChange Rows.minkowskiMinimaSpec) false w args) (Rows.minkowskiMinimaSpec.post enc Tryz.prog Tryz.f4 false true false false):=by
 refine returnsInHanded_of_change_and (C:=Tryz.checked) (X:=fun w _=>laidMetH Tryz.prog BX w) (fun _ _ _ hh h=>h.of_heap hh) Tryz.ownKnob_ started (by kernel_rfl) Tryz.func4
  (ChangeSpec.witness_shaped (enc:=enc) (C:=Tryz.checked) (os:=os) (X:=fun w _=>laidMetH Tryz.prog BX w) false (World.doorLaid Tryz.prog 400 os) #[.agg #[.int .u8 0,.int .u8 0,.slice none 0 0,.slice none 0 0]] 8 rfl (World.shaped_of_RefB (by kernel_rfl) (by kernel_rfl)) (by kernel_rfl) (by kernel_rfl) (by kernel_rfl) (Ll os _)) ?_
 intro W base args ds gs before hval0 hW hcnd hsz0 hL _;have hval: ∀(j:Nat) t v,Tryz.f4.params[j]?=some t->args[j]?=some v->Value.okWide Tryz.prog W .any base t v:=hval0;have hW':=hW;obtain⟨p,q,hA0,hV,rfl,hfz,hnd⟩:=hW;have hA:DataW.TrodAll enc Tryz.prog W 0 (fun _=>true) true Tryz.f4.params.toList args.toList ds p:=hA0;rw[Tryz.params4]at hA hval;obtain⟨v0,vs0,d0,ds0,p0,q0,hargs,rfl,rfl,h0,r0⟩:=trodAll_cons hA;obtain⟨rfl,rfl,rfl⟩:=trodAll_nil r0;obtain rfl:args= #[v0]:=by cases args;simp_all
 obtain⟨rfl,rfl⟩:=trodVars_none hV;have k0:=h0;have lt0: ∀x∈p0,x.block<W.heap.size:=by obtain⟨m,hm⟩:=k0;exact DataW.trod_lt m _ _ _ hm
 obtain⟨u00,u01,u02,u03,y00,y01,y02,y03,n0,rfl,rfl,rfl,q00,q01,q02,q03⟩:=Go.Joins.open_agg4 Tryz.underlying24 (by kernel_rfl) (by kernel_rfl) (hval 0 24 v0 rfl rfl) h0;obtain⟨dim0,rfl,hd0⟩:=wh Tryz.underlying5 q00;obtain⟨kind0,rfl,hk0⟩:=wh Tryz.underlying5 q01;obtain⟨L0,rL0,hL0⟩:=wg Tryz.underlying22 Tryz.underlying159 (by kernel_rfl) q02;obtain⟨B0,rB0,hB0⟩:=wg Tryz.underlying22 Tryz.underlying159 (by kernel_rfl) q03;clear hA0 hval0 hsz0;refine((B4 dim0 kind0 L0 B0 hL0 hd0 hk0).law (Bv hL) (vs:= #[.agg #[.int .u8 (dim0:Int),.int .u8 (kind0:Int),u02,u03]]) rfl (UH (vs:=[.agg #[.int .u8 (dim0:Int),.int .u8 (kind0:Int),u02,u03]]) rfl (fun j t v ht hv=>by
  match j,ht,hv with
  |0,ht,hv=>simp at ht hv;subst ht;subst hv;exact UX rL0 rB0
  |j+1,ht,hv=>simp at ht))).mono fun e W' ⟨he,bel0⟩=>?_
 have bel:Below W.heap.size W W':=bel0;subst he;exact⟨_,rfl,_,_,_,[],_,[],hW',trodAll_mk1 (shut_bool Tryz.underlying4 _),(trodAll_cons_mk (Below.trod Tryz.laidOut_ (by kernel_rfl) (of_decide_eq_true (by kernel_rfl)) k0 bel lt0) trodAll_mk0),rfl,bel.frame _,fun h=>by cases h⟩
theorem iL:Rows.MinkowskiMinimaSaid:=
 OpenClaim.holds_of_wide 4 Tryz.f4 rfl rfl rfl rfl rfl rfl rfl ⟨rfl,rfl,rfl,rfl,rfl⟩ rfl rfl rfl rfl rfl (by kernel_rfl) Tryz.func4 (by kernel_rfl)
  (of_decide_eq_true (by kernel_rfl)) (by unfold Func.isWrapper;first|(rw[if_pos (by decide+kernel)];kernel_rfl)|(rw[if_neg (by decide+kernel)];exact⟨rfl,rfl⟩))
  (fun os started H enc _=>mv os started H enc)
#print axioms iL
/-- The tied card. -/
theorem minkowskiMinima_card:Rows.MinkowskiMinimaCardSaid:=
 Claim7.holds_tied_plain_at .later [] [.data] true (true, "dfc621e6aa9b384ae6cbcba3a697ba1609c09c48235671ff8a64aeab46470d91") false
  iL (fun _ h=>by cases h) (by kernel_rfl) (fun _ h=>by cases h) minkowskiMinima_row_tie rfl ⟨rfl,rfl⟩ (by kernel_rfl) rfl
  (fun f fn hf hfn=>by
   obtain rfl : f = 4 := Option.some.inj ((show Tryz.prog.funcNamed "quadform/quadformlaw14.MinkowskiMinima" = some 4 by kernel_rfl).symm.trans hf) |>.symm;obtain rfl:fn=Tryz.f4:=(Option.some.inj (Tryz.func4.symm.trans hfn)).symm;exact⟨by kernel_rfl,fun j t ht=>by
    rw[Tryz.params4]at ht;have hm:t∈[24]:=by simpa using Array.mem_of_getElem? ht
    have hall:([24].all fun u=>!Tryz.prog.wantsStandIn u)=true:=by kernel_rfl
    exact(show Tryz.prog.wantsStandIn t=false by simpa using List.all_eq_true.1 hall t hm)⟩)
  (by kernel_rfl)
#print axioms minkowskiMinima_card
end
end Go.Proofs.YtiollbhgpiiodaaGreatDoor
