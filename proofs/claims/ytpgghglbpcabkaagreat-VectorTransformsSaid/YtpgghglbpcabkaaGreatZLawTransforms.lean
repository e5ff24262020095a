/-
  Proved: the statement VectorTransformsSaid: for every input the law quadformlaw09.VectorTransforms returns true, and each argument reads afterwards as it read before. No condition.
-/
import Derived.Test.YtpgghglbpcabkaaGreatQ24
set_option linter.all false
set_option maxRecDepth 100000
set_option maxHeartbeats 64000000
namespace Go.Proofs.YtpgghglbpcabkaaGreat
open Go.RowKit
section
open Go.ChangeShapes Go.WideShapes Go.ChangeAt Go.RowKit
theorem kH (os:Os) (started:os.Started) (H:Type) (enc:TypeId×Value->H):
  ReturnsInHanded {} Tryz.checked os 4 .any (Rows.vectorTransformsSpec.pre6 enc Tryz.prog Tryz.f4 Rows.vectorTransformsRow.domain false) (Rows.vectorTransformsSpec.post enc Tryz.prog Tryz.f4 false true false false):=by
 refine returnsInHanded_of_change_sized (C:=Tryz.checked) Tryz.ownKnob_ started (by kernel_rfl) Tryz.func4
  (ChangeSpec.witness6 (enc:=enc) (C:=Tryz.checked) false ⟨#[],#[.agg #[.int .u8 0,.int .u8 0,.slice none 0 0,.slice none 0 0],.slice none 0 0,.slice none 0 0,.slice none 0 0,.int .i64 0],[]⟩ 8 (by kernel_rfl) (by kernel_rfl) (by kernel_rfl) (by kernel_rfl)) ?_
 intro W base args ds gs before hval0 hW hcnd hsz0 _
 have hval: ∀(j:Nat) t v,Tryz.f4.params[j]?=some t->args[j]?=some v->Value.okWide Tryz.prog W .any base t v:=hval0
 have hsz:(DataW.weightsEach Tryz.prog (Tryz.f4.params.toList++Rows.vectorTransformsSpec.plain.varTypes Tryz.prog) (ds++gs)).all (· <=reachBytes)=true:=hsz0
 have hW':=hW
 obtain⟨p,q,hA0,hV,rfl,hfz,hnd⟩:=hW
 have hA:DataW.TrodAll enc Tryz.prog W 0 (fun _=>true) true Tryz.f4.params.toList args.toList ds p:=hA0
 rw[Tryz.params4]at hA hval hsz
 obtain⟨v0,vs0,d0,ds0,p0,q0,hargs,rfl,rfl,h0,r0⟩:=trodAll_cons hA
 obtain⟨v1,vs1,d1,ds1,p1,q1,rfl,rfl,rfl,h1,r1⟩:=trodAll_cons r0
 obtain⟨v2,vs2,d2,ds2,p2,q2,rfl,rfl,rfl,h2,r2⟩:=trodAll_cons r1
 obtain⟨v3,vs3,d3,ds3,p3,q3,rfl,rfl,rfl,h3,r3⟩:=trodAll_cons r2
 obtain⟨v4,vs4,d4,ds4,p4,q4,rfl,rfl,rfl,h4,r4⟩:=trodAll_cons r3
 obtain⟨rfl,rfl,rfl⟩:=trodAll_nil r4
 obtain rfl:args= #[v0,v1,v2,v3,v4]:=by cases args;simp_all
 obtain⟨rfl,rfl⟩:=trodVars_none hV
 have k0:=h0
 have lt0: ∀x∈p0,x.block<W.heap.size:=by obtain⟨m,hm⟩:=k0;exact DataW.trod_lt m _ _ _ hm
 obtain⟨u00,u01,u02,u03,y00,y01,y02,y03,n0,rfl,rfl,rfl,q00,q01,q02,q03⟩:=Go.Joins.open_agg4 Tryz.underlying32 (by kernel_rfl) (by kernel_rfl) (hval 0 32 v0 rfl rfl) h0
 obtain⟨dim0,rfl,hd0⟩:=sG Tryz.underlying5 q00
 obtain⟨kind0,rfl,hk0⟩:=sG Tryz.underlying5 q01
 obtain⟨L0,rL0,hL0⟩:=n5 Tryz.underlying23 Tryz.underlying79 (by kernel_rfl) q02
 obtain⟨B0,rB0,hB0⟩:=n5 Tryz.underlying23 Tryz.underlying79 (by kernel_rfl) q03
 have k1:=h1
 have lt1: ∀x∈p1,x.block<W.heap.size:=by obtain⟨m,hm⟩:=k1;exact DataW.trod_lt m _ _ _ hm
 obtain⟨a1,len1,cap1,rfl⟩:=okWide_slice Tryz.underlying23 (hval 1 23 v1 rfl rfl)
 obtain⟨z1,g1,i1⟩: ∃L:List Int,dy (fun _=>False) W (.sl (ls f8 L)) (.slice a1 len1 cap1)/\I8 L:=by obtain⟨m,hm⟩:=h1;exact n5 (y:=(d1,p1)) Tryz.underlying23 Tryz.underlying79 (by kernel_rfl) (by simpa[Value.cells] using hm)
 obtain⟨a2,len2,cap2,rfl⟩:=okWide_slice Tryz.underlying22 (hval 2 22 v2 rfl rfl)
 have k2:=h2
 have lt2: ∀x∈p2,x.block<W.heap.size:=by obtain⟨m,hm⟩:=k2;exact DataW.trod_lt m _ _ _ hm
 obtain⟨z2,rfl,g21,g22,g23,g24⟩:=xT Tryz.underlying22 Tryz.underlying35 Tryz.underlying2 (by kernel_rfl) (by kernel_rfl) h2
 obtain⟨a3,len3,cap3,rfl⟩:=okWide_slice Tryz.underlying22 (hval 3 22 v3 rfl rfl)
 have k3:=h3
 have lt3: ∀x∈p3,x.block<W.heap.size:=by obtain⟨m,hm⟩:=k3;exact DataW.trod_lt m _ _ _ hm
 obtain⟨z3,rfl,g31,g32,g33,g34⟩:=xT Tryz.underlying22 Tryz.underlying35 Tryz.underlying2 (by kernel_rfl) (by kernel_rfl) h3
 obtain⟨a4,rfl,rfl,rfl,w4⟩:=open_int Tryz.underlying2 (hval 4 2 v4 rfl rfl) h4
 clear hA0 hval0 hsz0
 refine((qP dim0 kind0 L0 B0 z1 z2 z3 a4 hL0 hd0 hk0 i1 (fun r hr z hz=>qf (g24 r hr z hz)) (fun r hr z hz=>qf (g34 r hr z hz)) (qf w4)).law (vs:= #[.agg #[.int .u8 (dim0:Int),.int .u8 (kind0:Int),u02,u03],.slice a1 len1 cap1,.slice a2 z2.length cap2,.slice a3 z3.length cap3,.int .i64 a4]) rfl (J6 (vs:=[.agg #[.int .u8 (dim0:Int),.int .u8 (kind0:Int),u02,u03],.slice a1 len1 cap1,.slice a2 z2.length cap2,.slice a3 z3.length cap3,.int .i64 a4]) rfl (fun j t v ht hv=>by
  match j,ht,hv with
  |0,ht,hv=>simp at ht hv;subst ht;subst hv;exact Kh rL0 rB0
  |1,ht,hv=>simp at ht hv;subst ht;subst hv;exact g1
  |2,ht,hv=>simp at ht hv;subst ht;subst hv;exact Bw g21 (by unfold maxLen at g22;omega) g23
  |3,ht,hv=>simp at ht hv;subst ht;subst hv;exact Bw g31 (by unfold maxLen at g32;omega) g33
  |4,ht,hv=>simp at ht hv;subst ht;subst hv;exact dy.raw _ rfl
  |j+5,ht,hv=>simp at ht))).mono fun e W' ⟨he,bel0⟩=>?_
 have bel:Below W.heap.size W W':=bel0
 subst he
 exact⟨_,rfl,_,_,_,[],_,[],hW',trodAll_mk1 (shut_bool Tryz.underlying4 _),(trodAll_cons_mk (Below.trod Tryz.laidOut_ (by kernel_rfl) (of_decide_eq_true (by kernel_rfl)) k0 bel lt0) (trodAll_cons_mk (Below.trod Tryz.laidOut_ (by kernel_rfl) (of_decide_eq_true (by kernel_rfl)) k1 bel lt1) (trodAll_cons_mk (Below.trod Tryz.laidOut_ (by kernel_rfl) (of_decide_eq_true (by kernel_rfl)) k2 bel lt2) (trodAll_cons_mk (Below.trod Tryz.laidOut_ (by kernel_rfl) (of_decide_eq_true (by kernel_rfl)) k3 bel lt3) (trodAll_cons_mk (shut_int Tryz.underlying2 w4) trodAll_mk0))))),rfl,bel.frame _,fun h=>by cases h⟩
theorem vectorTransforms_holds:Rows.VectorTransformsSaid:=
 OpenClaim.holds_of_wide 4 Tryz.f4 rfl rfl rfl rfl rfl rfl rfl ⟨rfl,rfl,rfl,rfl,rfl⟩ rfl rfl rfl rfl rfl (by kernel_rfl) Tryz.func4 (by kernel_rfl)
  (of_decide_eq_true (by kernel_rfl)) (by unfold Func.isWrapper;first|(rw[if_pos (by decide+kernel)];kernel_rfl)|(rw[if_neg (by decide+kernel)];exact⟨rfl,rfl⟩))
  (fun os started H enc _=>kH os started H enc)
#print axioms vectorTransforms_holds
end
end Go.Proofs.YtpgghglbpcabkaaGreat
