/-
  Proved: the statement ShortLongSaid: for every input the law quadformlaw13.ShortLong returns true, and each argument reads afterwards as it read before. No condition.
-/
import Derived.Test.YtalmoejhjceflaaGreatP23
set_option linter.all false
set_option maxRecDepth 100000
set_option maxHeartbeats 64000000
namespace Go.Proofs.YtalmoejhjceflaaGreat
open Go.RowKit
section
open Go.ChangeShapes Go.WideShapes Go.ChangeAt Go.RowKit
theorem qk (os:Os) (started:os.Started) (H:Type) (enc:TypeId×Value->H):
  ReturnsInHanded {} Tryz.checked os 5 .any (Rows.shortLongSpec.pre6 enc Tryz.prog Tryz.f5 Rows.shortLongRow.domain false) (Rows.shortLongSpec.post enc Tryz.prog Tryz.f5 false true false false):=by
 refine returnsInHanded_of_change_sized (C:=Tryz.checked) Tryz.ownKnob_ started (by kernel_rfl) Tryz.func5
  (ChangeSpec.witness6 (enc:=enc) (C:=Tryz.checked) false ⟨#[],#[.int .u8 0],[]⟩ 8 (by kernel_rfl) (by kernel_rfl) (by kernel_rfl) (by kernel_rfl)) ?_
 intro W base args ds gs before hval0 hW hcnd hsz0 _;have hval: ∀(j:Nat) t v,Tryz.f5.params[j]?=some t->args[j]?=some v->Value.okWide Tryz.prog W .any base t v:=hval0;have hsz:(DataW.weightsEach Tryz.prog (Tryz.f5.params.toList++Rows.shortLongSpec.plain.varTypes Tryz.prog) (ds++gs)).all (· <=reachBytes)=true:=hsz0;have hW':=hW;obtain⟨p,q,hA0,hV,rfl,hfz,hnd⟩:=hW;have hA:DataW.TrodAll enc Tryz.prog W 0 (fun _=>true) true Tryz.f5.params.toList args.toList ds p:=hA0;rw[Tryz.params5]at hA hval hsz;obtain⟨v0,vs0,d0,ds0,p0,q0,hargs,rfl,rfl,h0,r0⟩:=trodAll_cons hA;obtain⟨rfl,rfl,rfl⟩:=trodAll_nil r0;obtain rfl:args= #[v0]:=by cases args;simp_all
 obtain⟨rfl,rfl⟩:=trodVars_none hV;obtain⟨a0,rfl,rfl,rfl,w0⟩:=open_int Tryz.underlying5 (hval 0 5 v0 rfl rfl) h0;clear hA0 hval0 hsz0;obtain⟨bn0,hbn0⟩: ∃bn:Nat,a0=(bn:Int):=⟨a0.toNat,by have:=AU w0;omega⟩;have hw0:=AU w0;subst hbn0;refine((Fy bn0 (by omega)).law (vs:= #[.int .u8 (bn0:Int)]) rfl (Rq (vs:=[.int .u8 (bn0:Int)]) rfl (fun j t v ht hv=>by
  match j,ht,hv with
  |0,ht,hv=>simp at ht hv;subst ht;subst hv;exact bX.raw _ rfl
  |j+1,ht,hv=>simp at ht))).mono fun e W' ⟨he,bel0⟩=>?_
 have bel:Below W.heap.size W W':=bel0;subst he;exact⟨_,rfl,_,_,_,[],_,[],hW',trodAll_mk1 (shut_bool Tryz.underlying4 _),(trodAll_cons_mk (shut_int Tryz.underlying5 w0) trodAll_mk0),rfl,bel.frame _,fun h=>by cases h⟩
theorem shortLong_holds:Rows.ShortLongSaid:=
 OpenClaim.holds_of_wide 5 Tryz.f5 rfl rfl rfl rfl rfl rfl rfl ⟨rfl,rfl,rfl,rfl,rfl⟩ rfl rfl rfl rfl rfl (by kernel_rfl) Tryz.func5 (by kernel_rfl)
  (of_decide_eq_true (by kernel_rfl)) (by unfold Func.isWrapper;first|(rw[if_pos (by decide+kernel)];kernel_rfl)|(rw[if_neg (by decide+kernel)];exact⟨rfl,rfl⟩))
  (fun os started H enc _=>qk os started H enc)
#print axioms shortLong_holds
end
end Go.Proofs.YtalmoejhjceflaaGreat
