/-
  Proved: the statement VectorUnimodularSaid: for every input the law quadformlaw09.VectorUnimodular returns true, and each argument reads afterwards as it read before. No condition.
-/
import Derived.Test.YtpgghglbpcabkaaGreatP19
set_option linter.all false
set_option maxRecDepth 100000
set_option maxHeartbeats 64000000
namespace Go.Proofs.YtpgghglbpcabkaaGreat
open Go.RowKit
section
open Go.ChangeShapes Go.WideShapes Go.ChangeAt Go.RowKit
theorem EA {w:World} {d k:Nat} {L:List Int} {v2:Value} (h2:cO (fun _=>False) w (.sl (ls f8 L)) v2):
  (tG d k L).rel (fun _ _=>none) (fun _=>[]) (fun _=>False) w (.agg #[.int .u8 (d:Int),.int .u8 (k:Int),v2]):=by
 refine⟨#[.int .u8 (d:Int),.int .u8 (k:Int),v2],rfl,rfl,fun j x hx=>?_⟩
 match j,hx with
 |0,hx=>simp at hx;subst hx;exact⟨_,rfl,rfl,cO.raw _ rfl⟩
 |1,hx=>simp at hx;subst hx;exact⟨_,rfl,rfl,cO.raw _ rfl⟩
 |2,hx=>simp at hx;subst hx;exact⟨_,rfl,h2.one,h2⟩
 |j+3,hx=>simp at hx
theorem iF (os:Os) (started:os.Started) (H:Type) (enc:TypeId×Value->H):
  ReturnsInHanded {} Tryz.checked os 3 .any (Rows.vectorUnimodularSpec.pre6 enc Tryz.prog Tryz.f3 Rows.vectorUnimodularRow.domain false) (Rows.vectorUnimodularSpec.post enc Tryz.prog Tryz.f3 false true false false):=by
 refine returnsInHanded_of_change_sized (C:=Tryz.checked) Tryz.ownKnob_ started (by kernel_rfl) Tryz.func3
  (ChangeSpec.witness6 (enc:=enc) (C:=Tryz.checked) false ⟨#[],#[.slice none 0 0,.slice none 0 0,.int .u8 0,.agg #[.int .u8 0,.int .u8 0,.slice none 0 0]],[]⟩ 8 (by kernel_rfl) (by kernel_rfl) (by kernel_rfl) (by kernel_rfl)) ?_
 intro W base args ds gs before hval0 hW hcnd hsz0 _
 have hval: ∀(j:Nat) t v,Tryz.f3.params[j]?=some t->args[j]?=some v->Value.okWide Tryz.prog W .any base t v:=hval0
 have hsz:(DataW.weightsEach Tryz.prog (Tryz.f3.params.toList++Rows.vectorUnimodularSpec.plain.varTypes Tryz.prog) (ds++gs)).all (· <=reachBytes)=true:=hsz0
 have hW':=hW
 obtain⟨p,q,hA0,hV,rfl,hfz,hnd⟩:=hW
 have hA:DataW.TrodAll enc Tryz.prog W 0 (fun _=>true) true Tryz.f3.params.toList args.toList ds p:=hA0
 rw[Tryz.params3]at hA hval hsz
 obtain⟨v0,vs0,d0,ds0,p0,q0,hargs,rfl,rfl,h0,r0⟩:=trodAll_cons hA
 obtain⟨v1,vs1,d1,ds1,p1,q1,rfl,rfl,rfl,h1,r1⟩:=trodAll_cons r0
 obtain⟨v2,vs2,d2,ds2,p2,q2,rfl,rfl,rfl,h2,r2⟩:=trodAll_cons r1
 obtain⟨v3,vs3,d3,ds3,p3,q3,rfl,rfl,rfl,h3,r3⟩:=trodAll_cons r2
 obtain⟨rfl,rfl,rfl⟩:=trodAll_nil r3
 obtain rfl:args= #[v0,v1,v2,v3]:=by cases args;simp_all
 obtain⟨rfl,rfl⟩:=trodVars_none hV
 obtain⟨a0,len0,cap0,rfl⟩:=okWide_slice Tryz.underlying22 (hval 0 22 v0 rfl rfl)
 have k0:=h0
 have lt0: ∀x∈p0,x.block<W.heap.size:=by obtain⟨m,hm⟩:=k0;exact DataW.trod_lt m _ _ _ hm
 obtain⟨z0,rfl,g01,g02,g03,g04⟩:=AB Tryz.underlying22 Tryz.underlying35 Tryz.underlying2 (by kernel_rfl) (by kernel_rfl) h0
 have k1:=h1
 have lt1: ∀x∈p1,x.block<W.heap.size:=by obtain⟨m,hm⟩:=k1;exact DataW.trod_lt m _ _ _ hm
 obtain⟨a1,len1,cap1,rfl⟩:=okWide_slice Tryz.underlying23 (hval 1 23 v1 rfl rfl)
 obtain⟨z1,g1,i1⟩: ∃L:List Int,cO (fun _=>False) W (.sl (ls f8 L)) (.slice a1 len1 cap1)/\I8 L:=by obtain⟨m,hm⟩:=h1;exact oD (y:=(d1,p1)) Tryz.underlying23 Tryz.underlying79 (by kernel_rfl) (by simpa[Value.cells] using hm)
 obtain⟨a2,rfl,rfl,rfl,w2⟩:=open_int Tryz.underlying5 (hval 2 5 v2 rfl rfl) h2
 have k3:=h3
 have lt3: ∀x∈p3,x.block<W.heap.size:=by obtain⟨m,hm⟩:=k3;exact DataW.trod_lt m _ _ _ hm
 obtain⟨u30,u31,u32,y30,y31,y32,n3,rfl,rfl,rfl,q30,q31,q32⟩:=Go.Joins.open_agg3 Tryz.underlying25 (by kernel_rfl) (by kernel_rfl) (hval 3 25 v3 rfl rfl) h3
 obtain⟨rows3,rfl,hr3⟩:=oA Tryz.underlying5 q30
 obtain⟨cols3,rfl,hc3⟩:=oA Tryz.underlying5 q31
 obtain⟨L3,rL3,hL3⟩:=oD Tryz.underlying23 Tryz.underlying79 (by kernel_rfl) q32
 have b2:=sA w2
 obtain⟨m2,hm2⟩: ∃m2:Nat,a2=(m2:Int):=⟨a2.toNat,by omega⟩
 subst hm2
 clear hA0 hval0 hsz0
 refine((ni z0 z1 m2 rows3 cols3 L3 (fun r hr z hz=>yP (g04 r hr z hz)) i1 (by omega) hL3 hr3 hc3).law (vs:= #[.slice a0 z0.length cap0,.slice a1 len1 cap1,.int .u8 (m2:Int),.agg #[.int .u8 (rows3:Int),.int .u8 (cols3:Int),u32]]) rfl (EZ (vs:=[.slice a0 z0.length cap0,.slice a1 len1 cap1,.int .u8 (m2:Int),.agg #[.int .u8 (rows3:Int),.int .u8 (cols3:Int),u32]]) rfl (fun j t v ht hv=>by
  match j,ht,hv with
  |0,ht,hv=>simp at ht hv;subst ht;subst hv;exact Db g01 (by unfold maxLen at g02;omega) g03
  |1,ht,hv=>simp at ht hv;subst ht;subst hv;exact g1
  |2,ht,hv=>simp at ht hv;subst ht;subst hv;exact cO.raw _ rfl
  |3,ht,hv=>simp at ht hv;subst ht;subst hv;exact EA rL3
  |j+4,ht,hv=>simp at ht))).mono fun e W' ⟨he,bel0⟩=>?_
 have bel:Below W.heap.size W W':=bel0
 subst he
 exact⟨_,rfl,_,_,_,[],_,[],hW',trodAll_mk1 (shut_bool Tryz.underlying4 _),(trodAll_cons_mk (Below.trod Tryz.laidOut_ (by kernel_rfl) (of_decide_eq_true (by kernel_rfl)) k0 bel lt0) (trodAll_cons_mk (Below.trod Tryz.laidOut_ (by kernel_rfl) (of_decide_eq_true (by kernel_rfl)) k1 bel lt1) (trodAll_cons_mk (shut_int Tryz.underlying5 w2) (trodAll_cons_mk (Below.trod Tryz.laidOut_ (by kernel_rfl) (of_decide_eq_true (by kernel_rfl)) k3 bel lt3) trodAll_mk0)))),rfl,bel.frame _,fun h=>by cases h⟩
theorem vectorUnimodular_holds:Rows.VectorUnimodularSaid:=
 OpenClaim.holds_of_wide 3 Tryz.f3 rfl rfl rfl rfl rfl rfl rfl ⟨rfl,rfl,rfl,rfl,rfl⟩ rfl rfl rfl rfl rfl (by kernel_rfl) Tryz.func3 (by kernel_rfl)
  (of_decide_eq_true (by kernel_rfl)) (by unfold Func.isWrapper;first|(rw[if_pos (by decide+kernel)];kernel_rfl)|(rw[if_neg (by decide+kernel)];exact⟨rfl,rfl⟩))
  (fun os started H enc _=>iF os started H enc)
#print axioms vectorUnimodular_holds
end
end Go.Proofs.YtpgghglbpcabkaaGreat
