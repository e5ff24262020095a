/-
  Proved: the statement ShortRanksSaid: for every input the law quadformlaw13.ShortRanks returns true, and each argument reads afterwards as it read before. No condition.
-/
import Derived.Test.YtalmoejhjceflaaGreatR48
set_option linter.all false
set_option maxRecDepth 100000
set_option maxHeartbeats 64000000
namespace Go.Proofs.YtalmoejhjceflaaGreat
open Go.RowKit Go.Proofs.Tryz
section
open Go.ChangeShapes Go.WideShapes Go.ChangeAt Go.RowKit
theorem rB (os:Os) (u:os.Started) (H:Type) (o:TypeId×Value->H):
  ReturnsInHanded {} checked os 8 .any (Rows.shortRanksSpec.pre6 o prog Tryz.f8 Rows.shortRanksRow.domain false) (Rows.shortRanksSpec.post o prog Tryz.f8 false true false false):=by
 refine returnsInHanded_of_change_sized (C:=checked) Tryz.ownKnob_ u (by kernel_rfl) func8
  (ChangeSpec.witness6 (enc:=o) (C:=checked) false ⟨#[],#[.agg #[.int .u8 0,.int .u8 0,.slice none 0 0,.slice none 0 0],.slice none 0 0,.slice none 0 0,.slice none 0 0],[]⟩ 8 (by kernel_rfl) (by kernel_rfl) (by kernel_rfl) (by kernel_rfl)) ?_
 intro W E args ds gs N s hW a5 B _;have b: ∀(j:Nat) t v,Tryz.f8.params[j]?=some t->args[j]?=some v->Value.okWide prog W .any E t v:=s;have ac:(DataW.weightsEach prog (Tryz.f8.params.toList++Rows.shortRanksSpec.plain.varTypes prog) (ds++gs)).all (· <=reachBytes)=true:=B;have Y:=hW;obtain⟨p,q,K,hV,rfl,bl,bm⟩:=hW;have hA:DataW.TrodAll o prog W 0 (fun _=>true) true Tryz.f8.params.toList args.toList ds p:=K;rw[params8]at hA b ac;obtain⟨v0,bq,d0,a9,p0,q0,Z,rfl,rfl,h0,r0⟩:=trodAll_cons hA;obtain⟨v1,br,d1,ba,p1,q1,rfl,rfl,rfl,h1,r1⟩:=trodAll_cons r0;obtain⟨v2,bt,d2,bb,p2,q2,rfl,rfl,rfl,h2,r2⟩:=trodAll_cons r1;obtain⟨v3,bw,d3,bc,p3,q3,rfl,rfl,rfl,h3,r3⟩:=trodAll_cons r2;obtain⟨rfl,rfl,rfl⟩:=trodAll_nil r3;obtain rfl:args= #[v0,v1,v2,v3]:=by cases args;simp_all
 obtain⟨rfl,rfl⟩:=trodVars_none hV;have k0:=h0;have ad: ∀x∈p0,x.block<W.heap.size:=by obtain⟨m,D⟩:=k0;exact adC m _ _ _ D
 obtain⟨bn,bp,L,M,bx,bR,b0,b1,n0,rfl,rfl,rfl,ah,al,ap,av⟩:=Go.Joins.open_agg4 underlying24 (by kernel_rfl) (by kernel_rfl) (b 0 24 v0 rfl rfl) h0;obtain⟨n,rfl,aa⟩:=xc underlying5 ah;obtain⟨f,rfl,ab⟩:=xc underlying5 al;obtain⟨L0,a4,X⟩:=xa underlying22 underlying157 (by kernel_rfl) ap;obtain⟨B0,a0,bh⟩:=xa underlying22 underlying157 (by kernel_rfl) av;obtain⟨a1,a6,w,rfl⟩:=okWide_slice underlying49 (b 1 49 v1 rfl rfl);have k1:=h1;have ae: ∀x∈p1,x.block<W.heap.size:=by obtain⟨m,D⟩:=k1;exact adC m _ _ _ D
 obtain⟨z1,rfl,O,G,P,Q⟩:=xd underlying49 underlying22 underlying157 (by kernel_rfl) (by kernel_rfl) h1;obtain⟨a2,a7,y,rfl⟩:=okWide_slice underlying26 (b 2 26 v2 rfl rfl);have k2:=h2;have af: ∀x∈p2,x.block<W.heap.size:=by obtain⟨m,D⟩:=k2;exact adC m _ _ _ D
 obtain⟨z2,rfl,R,I,S,T⟩:=xd underlying26 underlying35 underlying2 (by kernel_rfl) (by kernel_rfl) h2;obtain⟨a3,a8,A,rfl⟩:=okWide_slice underlying26 (b 3 26 v3 rfl rfl);have k3:=h3;have ag: ∀x∈p3,x.block<W.heap.size:=by obtain⟨m,D⟩:=k3;exact adC m _ _ _ D
 obtain⟨z3,rfl,U,J,V,bd⟩:=xd underlying26 underlying35 underlying2 (by kernel_rfl) (by kernel_rfl) h3;clear K s B;refine((GC n f L0 B0 z1 z2 z3 X aa ab (fun r hr z hz=>E8 (Q r hr z hz)) (fun r hr z hz=>MC (T r hr z hz)) (by unfold maxLen at G;omega) (by unfold maxLen at I;omega) (by unfold maxLen at J;omega)).law (vs:= #[.agg #[.int .u8 (n:Int),.int .u8 (f:Int),L,M],.slice a1 z1.length w,.slice a2 z2.length y,.slice a3 z3.length A]) rfl (YB (vs:=[.agg #[.int .u8 (n:Int),.int .u8 (f:Int),L,M],.slice a1 z1.length w,.slice a2 z2.length y,.slice a3 z3.length A]) rfl (fun j t v c g=>by
  match j,c,g with
  |0,c,g=>simp at c g;subst c;subst g;exact Y1 a4 a0
  |1,c,g=>simp at c g;subst c;subst g;exact PO O (by unfold maxLen at G;omega) P
  |2,c,g=>simp at c g;subst c;subst g;exact Jw R (by unfold maxLen at I;omega) S
  |3,c,g=>simp at c g;subst c;subst g;exact Jw U (by unfold maxLen at J;omega) V
  |j+4,c,g=>simp at c))).mono fun e W' ⟨he,F⟩=>?_
 have l:Below W.heap.size W W':=F;subst he;exact⟨_,rfl,_,_,_,[],_,[],Y,trodAll_mk1 (shut_bool underlying4 _),(trodAll_cons_mk (aec Tryz.laidOut_ (by kernel_rfl) (of_decide_eq_true (by kernel_rfl)) k0 l ad) (trodAll_cons_mk (aec Tryz.laidOut_ (by kernel_rfl) (of_decide_eq_true (by kernel_rfl)) k1 l ae) (trodAll_cons_mk (aec Tryz.laidOut_ (by kernel_rfl) (of_decide_eq_true (by kernel_rfl)) k2 l af) (trodAll_cons_mk (aec Tryz.laidOut_ (by kernel_rfl) (of_decide_eq_true (by kernel_rfl)) k3 l ag) trodAll_mk0)))),rfl,l.frame _,fun h=>by cases h⟩
theorem td:joinedFacts Tryz.pinned.checked.prog 8 Tryz.f8 Rows.shortRanksSpec Rows.shortRanksRow=true:=by kernel_rfl
theorem shortRanks_holds:Rows.ShortRanksSaid:=
 OpenClaim.holds_of_wide 8 Tryz.f8 rfl rfl rfl rfl rfl rfl rfl ⟨rfl,rfl,rfl,rfl,rfl⟩ rfl rfl rfl rfl rfl (by kernel_rfl) func8 td
  (of_decide_eq_true (by kernel_rfl)) (by unfold Func.isWrapper;first|(rw[if_pos (by decide+kernel)];kernel_rfl)|(rw[if_neg (by decide+kernel)];exact⟨rfl,rfl⟩))
  (fun e b H c _=>rB e b H c)
#print axioms shortRanks_holds
end
end Go.Proofs.YtalmoejhjceflaaGreat
