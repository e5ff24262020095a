/-
  Proved: the statement ShortThetaSaid: for every input the law quadformlaw13.ShortTheta returns true, and each argument reads afterwards as it read before. No condition.
-/
import Derived.Test.YtalmoejhjceflaaGreatR25
set_option linter.all false
set_option maxRecDepth 100000
set_option maxHeartbeats 64000000
namespace Go.Proofs.YtalmoejhjceflaaGreat
open Go.RowKit Go.Proofs.Tryz
section
open Go.ChangeShapes Go.WideShapes Go.ChangeAt Go.RowKit
theorem rR (os:Os) (r:os.Started) (H:Type) (l:TypeId×Value->H):
  ReturnsInHanded {} checked os 4 .any (Rows.shortThetaSpec.pre6 l prog f4 Rows.shortThetaRow.domain false) (Rows.shortThetaSpec.post l prog f4 false true false false):=by
 refine returnsInHanded_of_change_sized (C:=checked) Tryz.ownKnob_ r (by kernel_rfl) func4
  (ChangeSpec.witness6 (enc:=l) (C:=checked) false ⟨#[],#[.agg #[.int .u8 0,.int .u8 0,.slice none 0 0,.slice none 0 0],.int .u8 0,.int .u16 0],[]⟩ 8 (by kernel_rfl) (by kernel_rfl) (by kernel_rfl) (by kernel_rfl)) ?_
 intro W y args ds gs I o hW aa s _;have c: ∀(j:Nat) t v,f4.params[j]?=some t->args[j]?=some v->Value.okWide prog W .any y t v:=o;have P:(DataW.weightsEach prog (f4.params.toList++Rows.shortThetaSpec.plain.varTypes prog) (ds++gs)).all (· <=reachBytes)=true:=s;have L:=hW;obtain⟨p,q,B,hV,rfl,af,ag⟩:=hW;have hA:DataW.TrodAll l prog W 0 (fun _=>true) true f4.params.toList args.toList ds p:=B;rw[params4]at hA c P;obtain⟨v0,av,d0,ab,p0,q0,M,rfl,rfl,h0,r0⟩:=trodAll_cons hA;obtain⟨v1,a0,d1,ac,p1,q1,rfl,rfl,rfl,h1,r1⟩:=trodAll_cons r0;obtain⟨v2,a3,d2,ad,p2,q2,rfl,rfl,rfl,h2,r2⟩:=trodAll_cons r1;obtain⟨rfl,rfl,rfl⟩:=trodAll_nil r2;obtain rfl:args= #[v0,v1,v2]:=by cases args;simp_all
 obtain⟨rfl,rfl⟩:=trodVars_none hV;have k0:=h0;have Q: ∀x∈p0,x.block<W.heap.size:=by obtain⟨m,hm⟩:=k0;exact DataW.trod_lt m _ _ _ hm
 obtain⟨an,ap,F,G,a4,a5,a6,a7,n0,rfl,rfl,rfl,R,S,T,U⟩:=Go.Joins.open_agg4 underlying24 (by kernel_rfl) (by kernel_rfl) (c 0 24 v0 rfl rfl) h0;obtain⟨g,rfl,N⟩:=xL underlying5 R;obtain⟨b,rfl,O⟩:=xL underlying5 S;obtain⟨L0,X,K⟩:=xK underlying22 underlying157 (by kernel_rfl) T;obtain⟨B0,V,ae⟩:=xK underlying22 underlying157 (by kernel_rfl) U;obtain⟨a1,rfl,rfl,rfl,Y⟩:=open_int underlying5 (c 1 5 v1 rfl rfl) h1;obtain⟨a2,rfl,rfl,rfl,Z⟩:=open_int underlying25 (c 2 25 v2 rfl rfl) h2;clear B o s;obtain⟨u,D⟩: ∃J:Nat,a1=(J:Int):=⟨a1.toNat,by have:=yB Y;omega⟩;have ah:=yB Y;subst D;obtain⟨w,E⟩: ∃J:Nat,a2=(J:Int):=⟨a2.toNat,by have:=AJ Z;omega⟩;have al:=AJ Z;subst E;refine((GE g b L0 B0 u w K N O (by omega) (by omega)).law (vs:= #[.agg #[.int .u8 (g:Int),.int .u8 (b:Int),F,G],.int .u8 (u:Int),.int .u16 (w:Int)]) rfl (YC (vs:=[.agg #[.int .u8 (g:Int),.int .u8 (b:Int),F,G],.int .u8 (u:Int),.int .u16 (w:Int)]) rfl (fun j t v f n=>by
  match j,f,n with
  |0,f,n=>simp at f n;subst f;subst n;exact Y1 X V
  |1,f,n=>simp at f n;subst f;subst n;exact bQ.raw _ rfl
  |2,f,n=>simp at f n;subst f;subst n;exact bQ.raw _ rfl
  |j+3,f,n=>simp at f))).mono fun e W' ⟨he,A⟩=>?_
 have z:Below W.heap.size W W':=A;subst he;exact⟨_,rfl,_,_,_,[],_,[],L,trodAll_mk1 (shut_bool underlying4 _),(trodAll_cons_mk (Below.trod Tryz.laidOut_ (by kernel_rfl) (of_decide_eq_true (by kernel_rfl)) k0 z Q) (trodAll_cons_mk (shut_int underlying5 Y) (trodAll_cons_mk (shut_int underlying25 Z) trodAll_mk0))),rfl,z.frame _,fun h=>by cases h⟩
theorem tM:joinedFacts pinned.checked.prog 4 f4 Rows.shortThetaSpec Rows.shortThetaRow=true:=by kernel_rfl
theorem shortTheta_holds:Rows.ShortThetaSaid:=
 OpenClaim.holds_of_wide 4 f4 rfl rfl rfl rfl rfl rfl rfl ⟨rfl,rfl,rfl,rfl,rfl⟩ rfl rfl rfl rfl rfl (by kernel_rfl) func4 tM
  (of_decide_eq_true (by kernel_rfl)) (by unfold Func.isWrapper;first|(rw[if_pos (by decide+kernel)];kernel_rfl)|(rw[if_neg (by decide+kernel)];exact⟨rfl,rfl⟩))
  (fun e b H c _=>rR e b H c)
#print axioms shortTheta_holds
end
end Go.Proofs.YtalmoejhjceflaaGreat
