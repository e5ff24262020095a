/-
  Proved: the statement ShortEvenSaid: for every input the law quadformlaw13.ShortEven returns true, and each argument reads afterwards as it read before. No condition.
-/
import Derived.Test.YtalmoejhjceflaaGreatQ49
set_option linter.all false
set_option maxRecDepth 100000
set_option maxHeartbeats 64000000
namespace Go.Proofs.YtalmoejhjceflaaGreat
open Go.RowKit Go.Proofs.Tryz
section
open Go.ChangeShapes Go.WideShapes Go.ChangeAt Go.RowKit
theorem wG (os:Os) (n:os.Started) (H:Type) (f:TypeId×Value->H):
  ReturnsInHanded {} checked os 6 .any (Rows.shortEvenSpec.pre6 f prog Tryz.f6 Rows.shortEvenRow.domain false) (Rows.shortEvenSpec.post f prog Tryz.f6 false true false false):=by
 refine returnsInHanded_of_change_sized (C:=checked) Tryz.ownKnob_ n (by kernel_rfl) func6
  (ae8 (enc:=f) (C:=checked) false ⟨#[],#[.agg #[.int .u8 0,.int .u8 0,.slice none 0 0,.slice none 0 0],.int .u8 0],[]⟩ 8 (by kernel_rfl) (by kernel_rfl) (by kernel_rfl) (by kernel_rfl)) ?_
 intro W w args U gs F l Y Z o _;have g: ∀(j:Nat) t v,Tryz.f6.params[j]?=some t->args[j]?=some v->Value.okWide prog W .any w t v:=l;have M:(DataW.weightsEach prog (Tryz.f6.params.toList++Rows.shortEvenSpec.plain.varTypes prog) (U++gs)).all (· <=reachBytes)=true:=o;have I:=Y;obtain⟨p,q,A,hV,rfl,ad,ae⟩:=Y;have X:DataW.TrodAll f prog W 0 (fun _=>true) true Tryz.f6.params.toList args.toList U p:=A;rw[params6]at X g M;obtain⟨v0,ap,d0,aa,p0,q0,J,rfl,rfl,V,r0⟩:=trodAll_cons X;obtain⟨v1,av,d1,ab,p1,q1,rfl,rfl,rfl,h1,r1⟩:=trodAll_cons r0;obtain⟨rfl,rfl,rfl⟩:=trodAll_nil r1;obtain rfl:args= #[v0,v1]:=by grind
 obtain⟨rfl,rfl⟩:=trodVars_none hV;have k0:=V;have N: ∀x∈p0,x.block<W.heap.size:=by obtain⟨m,hm⟩:=k0;exact afw m _ _ _ hm
 obtain⟨al,an,D,E,a0,a2,a3,a4,n0,rfl,rfl,rfl,O,P,Q,R⟩:=Go.Joins.open_agg4 underlying24 (by kernel_rfl) (by kernel_rfl) (g 0 24 v0 rfl rfl) V;obtain⟨c,rfl,K⟩:=fp underlying5 O;obtain⟨b,rfl,L⟩:=fp underlying5 P;obtain⟨L0,ah,G⟩:=fo underlying22 underlying157 (by kernel_rfl) Q;obtain⟨B0,ag,ac⟩:=fo underlying22 underlying157 (by kernel_rfl) R;obtain⟨T,rfl,rfl,rfl,S⟩:=open_int underlying5 (g 1 5 v1 rfl rfl) h1;clear A l o;obtain⟨r,B⟩: ∃bn:Nat,T=(bn:Int):=⟨T.toNat,by have:=mb S;omega⟩;have af:=mb S;subst B;refine((Ol c b L0 B0 r G K L (by omega)).law (vs:= #[.agg #[.int .u8 (c:Int),.int .u8 (b:Int),D,E],.int .u8 (r:Int)]) rfl (LI (vs:=[.agg #[.int .u8 (c:Int),.int .u8 (b:Int),D,E],.int .u8 (r:Int)]) rfl (fun j t v s u=>by
  match j,s,u with
  |0,s,u=>grind [Hl]
  |1,s,u=>simp at s u;subst s;subst u;exact bS.raw _ rfl
  |j+2,s,u=>simp at s))).mono fun e W' ⟨he,z⟩=>?_
 have y:Below W.heap.size W W':=z;subst he;exact⟨_,rfl,_,_,_,[],_,[],I,trodAll_mk1 (shut_bool underlying4 _),(trodAll_cons_mk (af9 Tryz.laidOut_ (by kernel_rfl) (of_decide_eq_true (by kernel_rfl)) k0 y N) (trodAll_cons_mk (shut_int underlying5 S) trodAll_mk0)),rfl,y.frame _,fun h=>by cases h⟩
theorem xK:joinedFacts Tryz.pinned.checked.prog 6 Tryz.f6 Rows.shortEvenSpec Rows.shortEvenRow=true:=by kernel_rfl
theorem shortEven_holds:Rows.ShortEvenSaid:=
 aeN 6 Tryz.f6 rfl rfl rfl rfl rfl rfl rfl ⟨rfl,rfl,rfl,rfl,rfl⟩ rfl rfl rfl rfl rfl (by kernel_rfl) func6 xK
  (of_decide_eq_true (by kernel_rfl)) (by unfold Func.isWrapper;first|(rw[if_pos (by decide+kernel)];kernel_rfl)|(rw[if_neg (by decide+kernel)];exact⟨rfl,rfl⟩))
  (fun e b H c _=>wG e b H c)
#print axioms shortEven_holds
end
end Go.Proofs.YtalmoejhjceflaaGreat
