/-
  Part 18 of a proof (walks and plain facts).
-/
import Derived.Test.YtalmoejhjceflaaGreatQ16
import Derived.Scope
set_option linter.all false
set_option maxRecDepth 100000
set_option maxHeartbeats 64000000
namespace Go.Proofs.YtalmoejhjceflaaGreat
open Go.RowKit
variable {b c:Nat->Prop} {w:World} {e:List PV} {n:Nat} {f:TypeId} {g:Rho} {h:Code} {s:AS} {j:TV}
section
section
variable {P:Program} {b:Nat} {ty:TypeId} {cs cs':List PV} {Q:Exit->AS->List PV->Prop} {s:AS}
end
theorem GN {a:Act} {B:World} (d:Nat) (hd:s.H d=[⟨f,e.length,[e.map AV.p]⟩]) (r:dq w b c s a B):
  ∃l,(w.heap.size<=l\/b l)/\ ¬c l/\i9 l f w (fun j=>b j\/j=l) (fun j=>c j\/j=l) ⟨s.tmps.map (xI d l),aF s.H d []⟩ e a B:=by
 obtain⟨h1,ad,I,C,T⟩:=r;have T:bo c I s a B:=T;have G:(s.H d)[0]?=some ⟨f,e.length,[e.map AV.p]⟩:=by rw[hd];rfl
 obtain⟨z1,z2,z3⟩:=C.objs d 0 _ G;cases L:I d 0 with
 |none=>grind
 |some bc=>
  obtain⟨l,n⟩:=bc;rw[L]at z3;obtain⟨cells,p1,p2,p3,p4,p5⟩:=z3;have aa:=C.old d 0 _ l n G L;have J: ∀(x y:Nat) o,(aF s.H d [] x)[y]?=some o->x≠d/\(s.H x)[y]?=some o:=fun x y o S=>by
   grind [aS,aM]
  have Y: ∀j,Xo (fun j=>c j\/j=l) I (aF s.H d []) j->Xo c I s.H j:=fun j E=>by
   rcases E with(E|rfl)|⟨x,y,o,n',N,D⟩
   ·exact .inl E
   ·exact .inr ⟨d,0,_,n,G,L⟩
   exact .inr ⟨x,y,o,n',(J x y o N).2,D⟩
  have R: ∀x v,AV.rel I s.H (Xo c I s.H) B x v->AV.rel I (aF s.H d []) (Xo (fun j=>c j\/j=l) I (aF s.H d [])) B (kU d l x) v:=ic (GW d l) fun x v hn P=>by
   cases x with
   |fn=>cases hn
   |p x=>exact bS.weaken (fun j _ E=>Y j E) P
   |sl x r ae len=>
    simp only[kU];split
    ·trivial
    rename_i K;obtain⟨o,N,D⟩:=P;exact⟨o,by grind [aM],D⟩
   |ptr x r i j=>
    simp only[kU];split
    ·rename_i K;subst K;split
     ·rename_i hc;obtain⟨rfl,rfl,rfl⟩:=hc;obtain⟨o,Z,W,N,D,g3,g4⟩:=P;rw[L]at D;injection D with D
      injection D with D ac
      subst D;rw[g4];simp only[aeS,ac9];exact bS.raw _ rfl
     trivial
    rename_i K;obtain⟨o,Z,W,N,D⟩:=P;exact⟨o,Z,W,by grind [aM],D⟩
   |junk=>trivial
  have Q: ∀e v,bM I s.H (Xo c I s.H) B e v->bM I (aF s.H d []) (Xo (fun j=>c j\/j=l) I (aF s.H d [])) B (e.map (kU d l)) v:=fun e v ⟨vs,N,D,g3⟩=>by
   refine⟨vs,N,by grind,fun j x P=>?_⟩;grind
  have ab:i9 l f w (fun j=>b j\/j=l) (fun j=>c j\/j=l) ⟨s.tmps.map (xI d l),aF s.H d []⟩ e a B:=by
   refine⟨h1,by grind,I,⟨⟨C.keep.os,C.keep.tape,C.keep.output,C.keep.size,fun k hk hn=>C.keep.block k hk (fun h=>hn (.inl h))⟩,fun x y o S=>?_,fun x y x' y' o o' j m W S F=>C.inj x y x' y' o o' j m W (J x y o S).2 (J x' y' o' F).2,fun x y o j m S E=>?_,fun j E=>?_,fun x y o S=>C.self x y o (J x y o S).2⟩,fun t x P=>?_,.inr rfl,.inr rfl,?_⟩
   ·obtain⟨K,F⟩:=J x y o S;obtain⟨q1,q2,q3⟩:=C.objs x y o F;refine⟨q1,q2,?_⟩;cases hr:I x y with
    |none=>grind
    |some bc=>
     obtain⟨Z,W⟩:=bc;rw[hr]at q3;obtain⟨M,r1,r2,r3,r4,r5⟩:=q3;refine⟨M,r1,r2,r3,r4,fun i q j z he hz=>?_⟩;obtain⟨u,u1,u2,u3⟩:=r5 i q j z he hz;have U:=C.self x y o F q (acd he) z (acd hz);have:=R z u u3;refine⟨u,u1,u2,?_⟩;cases z with
     |sl z _ _ _=>have U:z=x:=U;grind [kU]
     |ptr z _ _ _=>have U:z=x:=U;grind [kU]
     |fn _ z _=>have U:z=x:=U.1;grind [kU]
     |p z=>exact this
     |junk=>trivial
   ·obtain⟨K,F⟩:=J x y o S;obtain⟨N,D⟩:=C.old x y o j m F E;refine⟨?_,?_⟩
    ·grind
    rintro(g|rfl)
    ·exact D g
    exact K (C.inj x y d 0 o _ j m n F G E L).1
   ·rcases E with E|rfl
    ·exact C.bar j E
    grind
   ·simp only[ach]at P;obtain⟨y,hy,rfl⟩:=acf.1 P;obtain⟨v,v1,V⟩:=T t y hy;refine⟨v,v1,?_⟩;cases y with
    |one x=>exact R x v V
    |agg e=>exact Q e v V
    |fn A e=>obtain⟨u,h1,h2⟩:=V;exact⟨u,Q e u h1,h2⟩
    |tup ts=>
     obtain⟨vs,N,D,g3⟩:=V;refine⟨vs,N,by grind,fun j m e E=>?_⟩;grind
   refine⟨cells,n,p1,p2,by omega,p4,z2,fun j x P=>?_⟩;obtain⟨v,v1,V,v3⟩:=p5 0 (e.map AV.p) j (.p x) rfl (by grind);exact⟨v,by grind,V,bS.weaken (fun j _ E=>Y j E) v3⟩
  grind
def y9 (d b:Nat):AV->AV
 | .p (.raw (.pointer (some ⟨c,0,none⟩)))=>if c=b then .ptr d 0 0 0 else .p (.raw (.pointer (some ⟨c,0,none⟩)))
 |x=>x
def Jd (d b:Nat):TV->TV
 | .one x=> .one (y9 d b x)
 | .agg c=> .agg (c.map (y9 d b))
 | .fn f c=> .fn f (c.map (y9 d b))
 | .tup e=> .tup (e.map fun t=>(t.1,t.2.map (y9 d b)))
theorem FZ {a:Act} {A:World} {d:Nat} (ae:w.heap.size<=n\/b n) (ah: ¬c n) (hd:s.H d=[]) (r:i9 n f w (fun j=>b j\/j=n) (fun j=>c j\/j=n) s e a A):
  dq w b c ⟨s.tmps.map (Jd d n),aF s.H d [⟨f,e.length,[e.map AV.p]⟩]⟩ a A:=by
 obtain⟨k1,al,P,B,Y,_,_,cells,m,p1,p2,p3,p4,p5,p6⟩:=r;have Y:bo (fun j=>c j\/j=n) P s a A:=Y;generalize V:newρ P d (fun r=>if r=0 then some (n,m)else none)=ρ2;generalize aa:aF s.H d [⟨f,e.length,[e.map AV.p]⟩]=K;have af:K d=[⟨f,e.length,[e.map AV.p]⟩]:=by rw[<- aa,aS]
 have F: ∀x,x≠d->K x=s.H x:=fun x C=>by rw[<- aa,aM C]
 have Q: ∀r,ρ2 d r=if r=0 then some (n,m)else none:=fun r=>by rw[<- V,newρ_eq]
 have M: ∀x r,x≠d->ρ2 x r=P x r:=fun x r C=>by rw[<- V,newρ_ne C]
 have J: ∀(y:Nat) o,(K d)[y]?=some o->y=0/\o=⟨f,e.length,[e.map AV.p]⟩:=fun y o D=>by
  grind
 have ab: ∀j,Xo c ρ2 K j->Xo (fun j=>c j\/j=n) P s.H j:=fun j E=>by
  rcases E with E|⟨x,y,o,g,R,L⟩
  ·exact .inl (.inl E)
  by_cases C:x=d
  ·subst C;obtain⟨rfl,_⟩:=J y o R;rw[Q,if_pos rfl]at L;injection L with L
   injection L with L
   exact .inl (.inr L.symm)
  rw[F x C]at R;rw[M x y C]at L;exact .inr ⟨x,y,o,g,R,L⟩
 have ac: ∀x v,AV.rel P s.H (Xo (fun j=>c j\/j=n) P s.H) A x v->AV.rel ρ2 K (Xo c ρ2 K) A x v:=tM fun x v hn C=>by
  cases x with
  |fn=>cases hn
  |p x=>exact bS.weaken (fun j _ E=>ab j E) C
  |sl x r an len=>
   obtain⟨o,R,L⟩:=C;have ad:x≠d:=by grind
   exact⟨o,by grind,by grind⟩
  |ptr x r i j=>
   obtain⟨o,b',g,R,L,g3⟩:=C;have ad:x≠d:=by grind
   exact⟨o,b',g,by grind,by grind,g3⟩
  |junk=>trivial
 have W: ∀x v,AV.rel P s.H (Xo (fun j=>c j\/j=n) P s.H) A x v->AV.rel ρ2 K (Xo c ρ2 K) A (y9 d n x) v:=fun x v C=>by
  unfold y9;split
  ·split
   ·rename_i hb;subst hb;obtain⟨rfl,_⟩:=aZ (ρ:=P) (H:=s.H) C;exact⟨⟨f,e.length,[e.map AV.p]⟩,_,m,by grind,by rw[Q,if_pos rfl],by simp,by simp⟩
   grind
  grind
 have U: ∀e v,bM P s.H (Xo (fun j=>c j\/j=n) P s.H) A e v->bM ρ2 K (Xo c ρ2 K) A (e.map (y9 d n)) v:=fun e v ⟨vs,R,L,g3⟩=>by
  refine⟨vs,R,by grind,fun j x C=>?_⟩;grind
 refine⟨k1,by grind,ρ2,⟨⟨B.keep.os,B.keep.tape,B.keep.output,B.keep.size,fun k hk hn=>?_⟩,fun x y o D=>?_,fun x y T Z o o' j g c' D I E G=>?_,fun x y o j g D E=>?_,fun j E=>B.bar j (.inl E),fun x y o D=>?_⟩,fun t x C=>?_⟩
 ·by_cases ag:k=n
  ·grind
  exact B.keep.block k hk (fun hh=>by
   grind)
 ·by_cases C:x=d
  ·subst C;obtain⟨rfl,rfl⟩:=J y o D;refine⟨fun h S=>by grind,p5,?_⟩;rw[Q,if_pos rfl];refine⟨cells,p1,p2,by omega,p4,fun i h j z S hz=>?_⟩
   match i,S with
   |0,S=>
    simp at S;subst S;rw[ach]at hz;obtain⟨y,hy,rfl⟩:=acf.1 hz;obtain⟨v,v1,v2,v3⟩:=p6 j y hy;exact⟨v,by grind,v2,bS.weaken (fun j _ E=>ab j E) v3⟩
   |i+1,S=>simp at S
  replace D:(K x)[y]?=some o:=D
  rw[F x C]at D;exact d9 (B.objs x y o D) (M x y C) (fun _ _ _=>rfl) ac
 ·by_cases C:x=d
  ·subst C;obtain⟨rfl,_⟩:=J y o D;rw[Q,if_pos rfl]at E;injection E with E
   injection E with E _
   subst E;by_cases N:T=x
   ·grind
   replace I:(K T)[Z]?=some o':=I
   rw[F T N]at I;rw[M T Z N]at G;exact absurd (.inr rfl) (B.old T Z o' _ c' I G).2
  replace D:(K x)[y]?=some o:=D
  rw[F x C]at D;rw[M x y C]at E;by_cases N:T=d
  ·subst N;obtain⟨rfl,_⟩:=J Z o' I;rw[Q,if_pos rfl]at G;injection G with G
   injection G with G _
   subst G;exact absurd (.inr rfl) (B.old x y o _ g D E).2
  replace I:(K T)[Z]?=some o':=I
  rw[F T N]at I;rw[M T Z N]at G;exact B.inj x y T Z o o' j g c' D I E G
 ·by_cases C:x=d
  ·grind
  replace D:(K x)[y]?=some o:=D
  rw[F x C]at D;rw[M x y C]at E;obtain⟨R,L⟩:=B.old x y o j g D E;grind
 ·by_cases C:x=d
  ·subst C;obtain⟨_,rfl⟩:=J y o D;intro h S z hz;simp at S;subst S;obtain⟨q,_,rfl⟩:=acn.1 hz;trivial
  replace D:(K x)[y]?=some o:=D
  rw[F x C]at D;exact B.self x y o D
 simp only[ach]at C;obtain⟨y,hy,rfl⟩:=acf.1 C;obtain⟨v,v1,v2⟩:=Y t y hy;refine⟨v,v1,?_⟩;cases y with
 |one x=>exact W x v v2
 |agg e=>exact U e v v2
 |fn l e=>obtain⟨u,h1,h2⟩:=v2;exact⟨u,U e u h1,h2⟩
 |tup ts=>
  obtain⟨vs,R,L,g3⟩:=v2;refine⟨vs,R,by grind,fun j g e E=>?_⟩;grind
theorem yK {P:Program} {Q:Exit->AS->Prop} (d:Nat) {cs:List PV} (u:s.H d=[⟨f,cs.length,[cs.map AV.p]⟩]) (g: ∀b,eH P b f h (fun e l j=>l.H d=[]/\Q e ⟨l.tmps.map (Jd d b),aF l.H d [⟨f,j.length,[j.map AV.p]⟩]⟩) ⟨s.tmps.map (xI d b),aF s.H d []⟩ cs):bA P h Q s:=fun z O X a w r=>by
 obtain⟨b,o,q,t⟩:=GN d u r;exact wp_mono (g b _ _ _ _ _ t) fun e x y ⟨l,j,⟨m,n⟩,v⟩=>⟨_,n,FZ o q m v⟩
end
section
def noG (Q:Exit->AS->Prop):Exit->AS->Prop
 | .goto _,_=>False
 |e,s=>Q e s
section
variable {P:Program} {s:AS} {Q:Exit->AS->Prop}
theorem Nv (b:bA P h (noG Q) s):bA P (.scope h) Q s:=fun _ _ _ _ _ r=>
 wp_scope_straight (wp_mono (b _ _ _ _ _ r) fun e a w ⟨j,f,g⟩=>by
  cases e<;>first|exact⟨j,f,g⟩|exact f.elim)
theorem Nt (h:Q .normal s):bA P (.label n) Q s:=fun _ _ _ _ _ r=>wp_label ⟨s,h,r⟩
end
section
variable {P:Program} {b:Nat} {ty:TypeId} {cs:List PV} {s:AS} {Q:Exit->AS->List PV->Prop}
theorem FO (k d:Nat) (D:s.tmps[k]?=some (.raw (.pointer (some ⟨b,0,none⟩)))) (C:s.H d=[]) (f:fX P k h (fun e o=> ∃g,o.H d=[⟨ty,g.length,[g.map AV.p]⟩]/\o.tmps[k]?=some (.one (.ptr d 0 0 0))/\Q e ⟨o.tmps.map (xI d b),aF o.H d []⟩ g) ⟨s.tmps.map (Jd d b),aF s.H d [⟨ty,cs.length,[cs.map AV.p]⟩]⟩):eH P b ty h Q s cs:=fun J O X a w r=>by
 have t:O b:=by obtain⟨_,_,_,_,_,t,_⟩:=r;exact t
 have z:X b:=by obtain⟨_,_,_,_,_,_,z,_⟩:=r;exact z
 have L:(fun j=>O j\/j=b)=O:=by
  grind
 have M:(fun j=>(X j/\j≠b)\/j=b)=X:=by
  grind
 have l:a.tmps[k]?=some (.pointer (some ⟨b,0,none⟩)):=by
  obtain⟨_,_,x,_,m,_⟩:=r;obtain⟨v,q,u⟩:=m k _ D;rw[q,(aZ (H:=s.H) (ρ:=x) u).1]
 have I:i9 b ty J (fun j=>O j\/j=b) (fun j=>(X j/\j≠b)\/j=b) s cs a w:=by grind
 have n:=FZ (.inr t) (fun f=>f.2 rfl) C I;refine wp_mono (f _ _ _ _ _ _ ⟨n,l⟩) fun e K U ⟨o,⟨g,G,S,T⟩,E,F⟩=>?_
 obtain⟨y,N,R,A⟩:=GN d G E;have B:y=b:=by
  obtain⟨_,_,x,_,m,_⟩:=id A;obtain⟨v,q,u⟩:=m k (.raw (.pointer (some ⟨y,0,none⟩))) (by
   grind [xI,kU])
  rw[F]at q;injection q with q
  have:=(aZ u).1;grind
 subst B;grind
end
end
theorem ZW {q:World} {S:Act} (a:Nat) (ab:xG s.H a) (A:Inv w b c s.H g q) (ad:bo c g s S q):Inv w b c (aF s.H a []) g q/\bo c g ⟨s.tmps.map (fk s.H a),aF s.H a []⟩ S q:=by
 have D: ∀(x y:Nat) o,(aF s.H a [] x)[y]?=some o->x≠a/\(s.H x)[y]?=some o:=fun x y o F=>by
  grind [aS,aM]
 have T: ∀l,Xo c g (aF s.H a []) l->Xo c g s.H l:=fun l E=>by
  rcases E with E|⟨x,y,o,n,C,I⟩
  ·exact .inl E
  exact .inr ⟨x,y,o,n,(D x y o C).2,I⟩
 have U: ∀(r:Nat) o,(s.H a)[r]?=some o-> ∀l m,g a r=some (l,m)-> ¬Xo c g (aF s.H a []) l:=fun r o F l m W hX=>by
  rcases hX with hX|⟨x,y,N,n,C,I⟩
  ·exact(A.old a r o l m F W).2 hX
  obtain⟨M,aa⟩:=D x y N C;exact M (A.inj x y a r N o l n m aa F I W).1
 have G: ∀x u,isPure x=true->AV.rel g s.H (Xo c g s.H) q x u->bS (Xo c g (aF s.H a [])) q (yu x) u:=fun x u V h=>by
  cases x<;>first|exact bS.weaken (fun l _ E=>T l E) h|cases V
 have P: ∀(r:Nat) o,(s.H a)[r]?=some o-> ∀e∈o.elems,∀x∈e,∀u,AV.rel g s.H (Xo c g s.H) q x u->bS (Xo c g (aF s.H a [])) q (po s.H a x) u:=fun r o F e Q x M u Y=>by
  rcases ab r o F e Q x M with V|⟨r',ae,len,N,rfl,B,ac⟩
  ·have:=G x u V Y;cases x<;>first|exact this|cases V
  simp only[po,B];exact qU (A.objs a r' N B) B (fun e Q y hy u Y=>G y u (ac e Q y hy) Y) (U r' N B) Y
 have L: ∀x v,AV.rel g s.H (Xo c g s.H) q x v->AV.rel g (aF s.H a []) (Xo c g (aF s.H a [])) q (dP s.H a x) v:=ic (GV s.H a) fun x v hn h=>by
  cases x with
  |fn=>cases hn
  |p x=>exact bS.weaken (fun l _ E=>T l E) h
  |sl l r ae len=>
   simp only[dP];by_cases E:l=a
   ·subst E;rw[if_pos rfl];have h':=h;obtain⟨o,C,I,g3⟩:=h;rw[C];exact qU (A.objs l r o C) C (P r o C) (U r o C) h'
   rw[if_neg E];obtain⟨o,C,I⟩:=h;exact⟨o,by grind [aM],I⟩
  |ptr l r i j=>
   simp only[dP];by_cases E:l=a
   ·subst E;rw[if_pos rfl];trivial
   rw[if_neg E];obtain⟨o,b',m,C,I⟩:=h;exact⟨o,b',m,by grind [aM],I⟩
  |junk=>trivial
 have K: ∀J v,bM g s.H (Xo c g s.H) q J v->bM g (aF s.H a []) (Xo c g (aF s.H a [])) q (J.map (dP s.H a)) v:=fun J v h=>by
  obtain⟨vs,C,I,g3⟩:=h;refine⟨vs,C,by grind,fun j x M=>?_⟩;grind
 refine⟨⟨A.keep,fun x y o F=>?_,fun x y x' y' o N l m c' F B=>A.inj x y x' y' o N l m c' (D x y o F).2 (D x' y' N B).2,fun x y o l m F=>A.old x y o l m (D x y o F).2,A.bar,fun x y o F=>A.self x y o (D x y o F).2⟩,fun t x M=>?_⟩
 ·obtain⟨M,B⟩:=D x y o F;obtain⟨q1,q2,q3⟩:=A.objs x y o B;refine⟨q1,q2,?_⟩;cases W:g x y with
  |none=>grind
  |some bc=>
   obtain⟨l,m⟩:=bc;rw[W]at q3;obtain⟨cells,p1,p2,p3,p4,p5⟩:=q3;refine⟨cells,p1,p2,p3,p4,fun i e j z Q hz=>?_⟩;obtain⟨u,u1,u2,u3⟩:=p5 i e j z Q hz;have R:=A.self x y o B e (acd Q) z (acd hz);have:=L z u u3;refine⟨u,u1,u2,?_⟩;cases z with
   |sl z _ _ _=>have R:z=x:=R;grind [dP]
   |ptr z _ _ _=>have R:z=x:=R;grind [dP]
   |fn _ z _=>have R:z=x:=R.1;grind [dP]
   |p z=>exact this
   |junk=>trivial
 simp only[ach]at M;obtain⟨y,hy,rfl⟩:=acf.1 M;obtain⟨v,v1,Z⟩:=ad t y hy;refine⟨v,v1,?_⟩;cases y with
 |one x=>exact L x v Z
 |agg J=>exact K J v Z
 |fn f J=>obtain⟨u,h1,h2⟩:=Z;exact⟨u,K J u h1,h2⟩
 |tup ts=>
  obtain⟨vs,C,I,g3⟩:=Z;refine⟨vs,C,by grind,fun j l J hj=>?_⟩;grind
theorem tz (a k:Nat) {cs:List PV} (N:s.H a=[⟨f,n,[cs.map AV.p]⟩]) (Q:s.tmps[k]?=some (.one (.ptr a 0 0 0))):bJ s ⟨(s.tmps.map (fk s.H a)).set k (.one (.p (.ptr cs))),aF s.H a []⟩:=by
 rintro w0 O X G w ⟨T,V,B,l,z⟩;have z:bo X B s G w:=z;have m:(s.H a)[0]?=some ⟨f,n,[cs.map AV.p]⟩:=by rw[N];rfl
 have L:xG s.H a:=fun r o F e P x h=>by
  rw[N]at F;cases r with
  |succ r=>simp at F
  |zero=>
   simp at F;subst F;simp at P;subst P;obtain⟨y,_,rfl⟩:=acn.1 h;exact .inl rfl
 obtain⟨A,E⟩:=ZW a L l z;refine⟨T,by grind,B,A,fun t x h=>?_⟩;by_cases e:t=k
 ·subst e;simp only at h;have U:=(aci.1 Q).1;rw[acS (by grind)]at h;injection h with h
  subst h;obtain⟨v,v1,o,b,c,q,C,M,rfl⟩:=z t _ Q;rw[m]at q;injection q with q
  subst q;refine⟨_,v1,?_⟩;obtain⟨q1,q2,S⟩:=l.objs a 0 _ m;rw[C]at S;obtain⟨cells,Y,p2,p3,p4,Z⟩:=S;have J: ∀b,Xo X B (aF s.H a []) b->Xo X B s.H b:=fun b D=>by
   rcases D with D|⟨x,y,o,g,q,C⟩
   ·exact .inl D
   by_cases h:x=a
   ·grind [aS]
   rw[aM h]at q;exact .inr ⟨x,y,o,g,q,C⟩
  have K: ¬Xo X B (aF s.H a []) b:=fun I=>by
   rcases I with I|⟨x,y,W,g,q,M⟩
   ·exact(l.old a 0 _ b c m C).2 I
   by_cases h:x=a
   ·grind [aS]
   rw[aM h]at q;exact h (l.inj x y a 0 W _ b g c q m M C).1
  show bS _ w (.ptr cs) _;rw[show(0:Nat)*(⟨f,n,[cs.map AV.p]⟩:OObj).es+0=0 by simp];have R: ∀(j:Nat) x,cs[j]?=some x-> ∃u:Value,cells[j]?=some u/\bS (Xo X B (aF s.H a [])) w x u:=fun j x h=>by
   obtain⟨u,u1,u2,u3⟩:=Z 0 (cs.map AV.p) j (.p x) rfl (by grind);refine⟨u,by grind,bS.weaken (fun b _ D=>J b D) u3⟩
  refine bS.ptr b 0 cs (fun j=>(cells[j]?).getD undef) K (acB.1 Y).1 (fun j x h=>?_) (fun j x h=>?_)
  ·grind [cell_of_row]
  grind
 simp only at h;rw[ac4 (aed e)]at h;exact E t x h
section
def oX:TV->Bool
 | .one (.p _)=>true
 | .agg b=>b.all isPure
 | .fn _ b=>b.all isPure
 |_=>false
theorem oY {n:Rho} {H q:OH} {v:Value} (s: ∀e,c e->b e) (o:oX j=true) (h:j.rel g H b w v):j.rel n q c w v:=by
 have F: ∀x u,isPure x=true->AV.rel g H b w x u->AV.rel n q c w x u:=fun x u y E=>by
  cases x with
  |p x=>exact bS.weaken (fun e _ r=>s e r) E
  |_=>cases y
 have agg: ∀m v,m.all isPure=true->bM g H b w m v->bM n q c w m v:=fun m v D ⟨vs,z,A,G⟩=>by
  simp only[acr]at D;exact⟨vs,z,A,fun l x y=>by grind⟩
 cases j with
 |one x=>
  cases x with
  |p x=>exact bS.weaken (fun e _ r=>s e r) h
  |_=>cases o
 |agg m=>exact agg m v o h
 |fn f m=>obtain⟨u,B,C⟩:=h;exact⟨u,agg m u o B,C⟩
 |tup I=>cases o
def iF (k:Nat):Nat->List TV->Bool
 |_,[]=>true
 |i,t::l=>(i==k||oX t)&&iF k (i+1) l
theorem mD {k:Nat}: ∀{l:List TV} {i j:Nat} {t:TV},iF k i l=true->i+j≠k->l[j]?=some t->oX t=true
 |[],_,_,_,_,_,h=>by simp at h
 |u::l,i,0,t,h,b,c=>by
  grind [iF]
 |u::l,i,j+1,t,h,b,c=>by
  simp only[iF,acN]at h;exact mD (i:=i+1) (j:=j) h.2 (by omega) (by grind)
def famB (F:List OObj) (b:Rho):Nat->Prop:=fun j=> ∃(r:Nat) (o:OObj) (c:Nat),F[r]?=some o/\b 0 r=some (j,c)
structure iW (P:Program) (f:FuncId) (args:List TV) (k n:Nat) (F F':List OObj) (r:TV):Prop where
 able:callable P f=true
 noref:noRefTV r=true
 head: ∃o o',F[0]?=some o/\F'[0]?=some o'/\o.elems.length=n/\o'.elems.length=n/\o'.es=o.es
 calls: ∀(X:Nat->Prop) (w:World) (vs:Array Value) (ρ:Rho) (b c:Nat),Inv w (famB F ρ) X (famH 0 F) ρ w->ρ 0 0=some (b,c)->vs.size=args.length->vs[k]?=some (.slice (some ⟨b,0,none⟩) n c)->
  (∀(j:Nat) t,j≠k->args[j]?=some t-> ∃v:Value,vs[j]?=some v/\t.rel (fun _ _=>none) (fun _=>[]) (Xo X ρ (famH 0 F)) w v)->
  Calls P f vs w fun e w'=> ∃v,e= .returned v/\ ∃ρ':Rho,Inv w (famB F ρ) X (famH 0 F') ρ' w'/\ρ' 0 0=some (b,c)/\r.rel ρ' (famH 0 F') (Xo X ρ' (famH 0 F')) w' v
def abS (P:Program) (c:Func) (k n:Nat) (b:List OObj) (r:TV) (s:AS):Prop:=
 s.tmps[k]?=some (.one (.sl 0 0 0 n))/\s.H=famH 0 b/\rA P s c.results.toList=some r
theorem F6 {P:Program} {f:FuncId} {fn:Func} {args:List TV} {k:Nat} {F R:List OObj} (hf:P.funcs[f]?=some fn) (hb:fn.body=some h) (hn:callable P f=true) (hk:k<args.length) (aa:0<n) (q: ∃o o',F[0]?=some o/\R[0]?=some o'/\o.elems.length=n/\o'.elems.length=n/\o'.es=o.es) (hr:noRefTV j=true) (g:fX P k h (fun e s=>(e= .normal\/e= .ret)/\ ∃s',bJ s s'/\abS P fn k n R j s') ⟨args.set k (.one (.sl 0 0 0 n))++List.replicate (fn.ntmps-args.length) .undef,famH 0 F⟩):iW P f args k n F R j:=by
 refine⟨hn,hr,q,fun X w vs ρ b O z M Y W E=>?_⟩;obtain⟨o0,o1,af,ag,ad,ae,ac⟩:=q;refine calls_of_wp hf hb ?_;have V:=z.objs 0 0 o0 (by grind [famH]);obtain⟨_,ab,q3⟩:=V;rw[M]at q3;obtain⟨cells,_,_,p3,_⟩:=q3;have L:md k (.slice (some ⟨b,0,none⟩) n O) w (famB F ρ) X ⟨args.set k (.one (.sl 0 0 0 n))++List.replicate (fn.ntmps-args.length) .undef,famH 0 F⟩ {tmps:=vs++Array.replicate (fn.ntmps-vs.size) undef,defers:=[]} w:=by
  refine⟨⟨rfl,by simp[Y],ρ,z,fun t x J=>?_⟩,?_⟩
  ·by_cases ht:t<args.length
   ·rw[acx (by grind)]at J;by_cases I:t=k
    ·subst I;rw[acS ht]at J;injection J with J
     subst J;exact⟨_,by rw[ac8 (by omega)];exact W,o0,by grind [famH],by omega,.inr ⟨b,O,O,M,by simp,by omega,fun _=>rfl⟩⟩
    rw[ac4 (aed I)]at J;obtain⟨v,v1,N⟩:=E t x I J;refine⟨v,by grind,TV.rel_map N (fun y u Z=>?_)⟩;cases y with
    |p y=>exact Z
    |sl a j al len=>obtain⟨o,K,_⟩:=Z;simp at K
    |ptr a j i l=>obtain⟨o,_,_,K,_⟩:=Z;simp at K
    |fn f a qs=>grind [qM]
    |junk=>trivial
   grind [d6]
  grind
 refine wp_mono (g _ _ _ _ _ _ L) fun e a' w' ⟨s1,⟨U,s2,hw,S,D,T⟩,G⟩=>?_
 obtain⟨⟨K,ah,B,m,A⟩,H⟩:=G.weak hw;have A:bo X B s2 a' w':=A;rw[D]at m;obtain⟨v,v1,N⟩:=fq (by rw[D];exact m) A T;rw[D]at N;obtain⟨u,Q,u2⟩:=A k _ S;rw[H]at Q;injection Q with Q
 subst Q;obtain⟨o2,g1,g2,g3⟩:=u2;have C:B 0 0=some (b,O):=by
  grind
 rcases U with rfl|rfl
 ·exact⟨K,v,v1,v,rfl,B,m,C,N⟩
 exact⟨K,v,v1,v,rfl,B,m,C,N⟩
theorem Am {n:Rho} {H q:OH} {v:Value} (D: ∀l,l<w.heap.size->c l->b l) (o:noRefTV j=true) (h:j.rel g H b w v):j.rel n q c w v:=by
 have z: ∀x u,gO x=true->AV.rel g H b w x u->AV.rel n q c w x u:=fun x u y F=>by
  cases x with
  |p x=>exact bS.weaken D F
  |junk=>trivial
  |_=>cases y
 have agg: ∀m v,m.all gO=true->bM g H b w m v->bM n q c w m v:=fun m v E ⟨vs,s,t,A⟩=>by
  simp only[acr]at E;exact⟨vs,s,t,fun l x y=>by grind⟩
 cases j with
 |one x=>exact z x v o h
 |agg m=>exact agg m v o h
 |fn f m=>obtain⟨u,B,C⟩:=h;exact⟨u,agg m u o B,C⟩
 |tup I=>
  simp only[noRefTV,acr]at o;obtain⟨vs,s,t,A⟩:=h;refine⟨vs,s,t,fun l e m G=>?_⟩;grind
def kM (b:Nat):Nat->Nat->Bool:=fun x y=>x==b&&y !=0
section
variable {P:Program} {s:AS} {a:Act} {w0 w:World} {O X:Nat->Prop}
theorem GY (bl:dq w0 O X s a w) {o:Oper} {c:Call} {f:FuncId} (ho:o.op= .call c) (ba:c.callee= .value (.func f)) {args:List TV} {k B:Nat} {F F':List OObj} (ac:iW P f args k n F F' j) (bx:B<=4999) (hk:k<args.length) (cm:0<n) (bw:fz s.ev c.args.toList=some (args.set k (.one (.sl B 0 0 n)))) (a3:iF k 0 args=true) (cl:s.H B=F.map (renO B)) (a4: ∀o∈F,selfO 0 o) (al: ∀o∈F',selfO 0 o) {K:Act->World->Prop} {Q:Exit->Act->World->Prop} (hK: ∀v w',dq w0 O X (AS.put ⟨s.tmps.map (aT (kM B)),aF s.H B (F'.map (renO B))⟩ o.dst j) (a.put o.dst v) w'->K (a.put o.dst v) w'):o.wp P a w K Q:=by
 obtain⟨h1,cx,V,m,an⟩:=bl;have an:bo X V s a w:=an;obtain⟨e1,e2⟩:=bP bw;have b0:(args.set k (.one (.sl B 0 0 n)))[k]?=some (.one (.sl B 0 0 n)):=acS hk;obtain⟨x,I,b5⟩:=e2 k _ b0;obtain⟨o0,o1,bb,M,ct,cv,cs⟩:=ac.head;have hF: ∀(y:Nat) A,(s.H B)[y]?=some A↔ ∃o,F[y]?=some o/\A=renO B o:=fun y A=>by
  grind
 obtain⟨b,cc,cy,hv⟩: ∃b cc,V B 0=some (b,cc)/\a.eval x= .slice (some ⟨b,0,none⟩) n cc:=by
  obtain⟨A,E,J,Y⟩:=bv an x _ b5;grind
 let ad:Rho:=fun x y=>if x=0 then V B y else none
 have a0: ∀y,ad 0 y=V B y:=fun y=>if_pos rfl
 let own:Nat->Prop:=famB F ad
 have L: ∀l,own l↔ ∃(y:Nat) (A:OObj) (D:Nat),(s.H B)[y]?=some A/\V B y=some (l,D):=fun l=>by
  constructor
  ·rintro⟨y,o,D,E,J⟩;grind
  rintro⟨y,A,D,E,J⟩;obtain⟨o,Y,_⟩:=(hF y A).1 E;exact⟨y,o,D,Y,by grind⟩
 have b2: ∀l,own l->Xo X V s.H l:=fun l U=>by
  obtain⟨y,A,D,E,J⟩:=(L l).1 U;exact .inr ⟨B,y,A,D,E,J⟩
 let X1:Nat->Prop:=fun l=>Xo X V s.H l/\ ¬own l
 have a9: ∀l,Xo X V s.H l->l<w.heap.size:=fun b hb=>by
  rcases hb with hb|⟨x,y,A,n,E,J⟩
  ·exact m.bar b hb
  exact bz (m.objs x y A E) J
 have av:Xo X1 ad (famH 0 F)=Xo X V s.H:=by
  funext l;apply propext;constructor
  ·rintro(h|⟨x,y,A,D,E,J⟩)
   ·exact h.1
   grind [famH]
  intro h;by_cases U:own l
  ·obtain⟨y,A,D,E,J⟩:=U;exact .inr ⟨0,y,A,D,by grind [famH],J⟩
  exact .inl ⟨h,U⟩
 have f0: ∀(x y:Nat) A,(famH 0 F x)[y]?=some A->x=0/\F[y]?=some A:=fun x y A h=>by
  grind [famH]
 have a1: ∀x v,bH 0 x->AV.rel V s.H (Xo X V s.H) w (b6 B x) v->AV.rel ad (famH 0 F) (Xo X V s.H) w x v:=Cm fun x v hn W h=>by
  cases x with
  |fn=>cases hn
  |p x=>exact h
  |junk=>trivial
  |sl z y bq len=>
   have W:z=0:=W;subst W;obtain⟨A,E,J,Y⟩:=h;obtain⟨T,g4,rfl⟩:=(hF y A).1 E;exact⟨T,by grind [famH],by grind [renO],qw bx Y (a0 y)⟩
  |ptr z y i l=>
   have W:z=0:=W;subst W;obtain⟨A,b',D,E,J,Y,g5⟩:=h;obtain⟨T,g4,rfl⟩:=(hF y A).1 E;exact⟨T,b',D,by grind [famH],by grind,by grind [renO],g5⟩
 have a2:Inv w own X1 (famH 0 F) ad w:=by
  refine⟨Keep.refl w,fun x y A C=>?_,fun x y x' y' o1 T l c1 c2 M G q1 q2=>?_,fun x y A l D C q=>?_,fun l U=>a9 l U.1,fun x y A C=>?_⟩
  ·obtain⟨rfl,C⟩:=f0 x y A C;rw[av];obtain⟨z1,z2,z3⟩:=m.objs B y (renO B A) ((hF y _).2 ⟨A,C,rfl⟩);refine⟨fun e he=>?_,z2,?_⟩
   ·have:=z1 (e.map (b6 B)) (by grind [renO]);grind [renO]
   rw[a0];cases hr:V B y with
   |none=>rw[hr]at z3;simpa[renO] using z3
   |some bc=>
    obtain⟨b',D⟩:=bc;rw[hr]at z3;obtain⟨cells,p1,p2,p3,p4,p5⟩:=z3;refine⟨cells,p1,p2,by grind [renO],p4,fun i e l z he hz=>?_⟩;obtain⟨u,u1,u2,u3⟩:=p5 i (e.map (b6 B)) l (b6 B z) (by simp[renO,he]) (by grind);exact⟨u,u1,u2,a1 z u (a4 A (acd C) e (acd he) z (acd hz)) u3⟩
  ·obtain⟨rfl,M⟩:=f0 x y o1 M;obtain⟨rfl,G⟩:=f0 x' y' T G;exact⟨rfl,(m.inj B y B y' _ _ l c1 c2 ((hF y _).2 ⟨o1,M,rfl⟩) ((hF y' _).2 ⟨T,G,rfl⟩) (by grind) (by grind)).2⟩
  ·grind
  grind
 have bm:=fW (w:=w) ho ba (e:=a.eval) rfl ac.able;unfold Oper.wp;rw[bm];simp only[Oper.upon];have a5:c.args.size=args.length:=by grind
 refine(ac.calls X1 w (c.args.map a.eval) ad b cc a2 (by grind) (by simp[a5]) ?_ ?_).mono ?_
 ·grind
 ·intro l t U ht;rw[av];have b4:(args.set k (.one (.sl B 0 0 n)))[l]?=some t:=by grind
  obtain⟨y,hy,cg⟩:=e2 l t b4;refine⟨a.eval y,?_,oY (fun _ h=>h) (mD (i:=0) a3 (by omega) ht) (bv an y t cg)⟩;grind
 rintro e w1 ⟨v,rfl,ab,hi,cp,b3⟩;show K (a.put o.dst v) w1;refine hK v w1 ?_;have f1: ∀(x y:Nat) A,(famH 0 F' x)[y]?=some A->x=0/\F'[y]?=some A:=fun x y A h=>by
  grind [famH]
 generalize a8:aF s.H B (F'.map (renO B))=H1;generalize ci:(fun x y=>if x=B then ab 0 y else V x y:Rho)=ρ1;have cr:H1 B=F'.map (renO B):=by rw[<- a8];exact aS
 have Z: ∀x,x≠B->H1 x=s.H x:=fun x h=>by rw[<- a8];exact aM h
 have R: ∀y,ρ1 B y=ab 0 y:=fun y=>by grind
 have S: ∀x y,x≠B->ρ1 x y=V x y:=fun x y h=>by grind
 have N: ∀(y:Nat) A,(H1 B)[y]?=some A↔ ∃o,F'[y]?=some o/\A=renO B o:=fun y A=>by
  grind
 have ap: ∀l,l<w.heap.size-> ¬own l->w1.heap[l]?=w.heap[l]?:=fun l U ah=>hi.keep.block l U ah
 have ae: ∀(y:Nat) A l D,F'[y]?=some A->ab 0 y=some (l,D)->(w.heap.size<=l\/own l)/\ ¬X1 l:=fun y A l D E J=>hi.old 0 y A l D (by grind [famH]) J
 have bt: ∀l,l<w.heap.size->Xo X ρ1 H1 l->Xo X V s.H l:=fun l U h=>by
  rcases h with h|⟨x,y,A,D,E,J⟩
  ·exact .inl h
  by_cases I:x=B
  ·grind
  rw[Z x I]at E;rw[S x y I]at J;exact .inr ⟨x,y,A,D,E,J⟩
 have a7: ∀x v,bS (Xo X V s.H) w x v->bS (Xo X ρ1 H1) w1 x v:=fun x v h=>bS.later (fun l U I=>bt l U I) hi.keep.size (fun p v hp ah hc=>by
  grind [gE]) h
 -- what the call says of the family, told of number B
 have af: ∀l,l<w1.heap.size->Xo X ρ1 H1 l->Xo X1 ab (famH 0 F') l:=fun l _ h=>by
  rcases h with h|⟨x,y,A,D,E,J⟩
  ·have U:=m.bar l h;by_cases G:own l
   ·obtain⟨y,A,D,E,J⟩:=(L l).1 G;exact absurd h (m.old B y A l D E J).2
   exact .inl ⟨.inl h,G⟩
  by_cases I:x=B
  ·subst I;obtain⟨T,Y,_⟩:=(N y A).1 E;rw[R]at J;exact .inr ⟨0,y,T,D,by grind [famH],J⟩
  rw[Z x I]at E;rw[S x y I]at J;by_cases G:own l
  ·obtain⟨y',T,c2,k1,k2⟩:=(L l).1 G;exact absurd (m.inj x y B y' A T l D c2 E k1 J k2).1 I
  exact .inl ⟨.inr ⟨x,y,A,D,E,J⟩,G⟩
 have br: ∀x v,bH 0 x->AV.rel ab (famH 0 F') (Xo X1 ab (famH 0 F')) w1 x v->AV.rel ρ1 H1 (Xo X ρ1 H1) w1 (b6 B x) v:=kj (c:=bH 0) (fun _ _ _ _ _ _ h=>h.1) (ny B) fun x v hn W h=>by
  cases x with
  |fn=>cases hn
  |p x=>exact bS.weaken (fun l U I=>af l U I) h
  |junk=>trivial
  |sl z y bq len=>
   have W:z=0:=W;subst W;obtain⟨A,E,J,Y⟩:=h;obtain⟨_,E⟩:=f1 0 y A E;exact⟨renO B A,(N y _).2 ⟨A,E,rfl⟩,by grind [renO],qw (by decide) Y (R y)⟩
  |ptr z y i l=>
   have W:z=0:=W;subst W;obtain⟨A,b',D,E,J,Y,g5⟩:=h;obtain⟨_,E⟩:=f1 0 y A E;exact⟨renO B A,b',D,(N y _).2 ⟨A,E,rfl⟩,by grind,by grind [renO],g5⟩
 have mono: ∀x v,AV.rel V s.H (Xo X V s.H) w x v->AV.rel ρ1 H1 (Xo X ρ1 H1) w1 (aR (kM B) x) v:=ic (oN _) fun x v hn h=>by
  cases x with
  |fn=>cases hn
  |p x=>exact a7 x v h
  |junk=>trivial
  |sl z y bq len=>
   obtain⟨A,E,J,Y⟩:=h;simp only[aR];by_cases hz:z=B
   ·subst hz;by_cases hy:y=0
    ·subst hy;obtain⟨T,g4,rfl⟩:=(hF 0 A).1 E;rw[bb]at g4;injection g4 with g4
     subst g4;rw[if_neg (by simp[kM])];refine⟨renO z o1,(N 0 _).2 ⟨o1,M,rfl⟩,by grind [renO],?_⟩;grind [renO]
    rw[if_pos (by simp[kM,hy])];trivial
   rw[if_neg (by simp[kM,hz])];exact⟨A,by grind,J,by grind⟩
  |ptr z y i l=>
   obtain⟨A,b',D,E,J,Y,g5⟩:=h;simp only[aR];by_cases hz:z=B
   ·subst hz;by_cases hy:y=0
    ·subst hy;obtain⟨T,g4,rfl⟩:=(hF 0 A).1 E;rw[bb]at g4;injection g4 with g4
     subst g4;rw[if_neg (by simp[kM])];refine⟨renO z o1,b',D,(N 0 _).2 ⟨o1,M,rfl⟩,by grind,by grind [renO],?_⟩;grind [renO]
    rw[if_pos (by simp[kM,hy])];trivial
   rw[if_neg (by simp[kM,hz])];exact⟨A,b',D,by grind,by grind,Y,g5⟩
 have a6: ∀(z:Nat) x v,z≠B->bH z x->AV.rel V s.H (Xo X V s.H) w x v->AV.rel ρ1 H1 (Xo X ρ1 H1) w1 x v:=fun z x v hz W h=>by
  have:=mono x v h;cases x with
  |sl y _ _ _=>have W:y=z:=W;grind [aR,kM]
  |ptr y _ _ _=>have W:y=z:=W;grind [aR,kM]
  |fn _ y _=>have W:y=z:=W.1;grind [aR,kM]
  |p x=>exact this
  |junk=>trivial
 have bR:Inv w0 O X H1 ρ1 w1:=by
  refine⟨⟨hi.keep.os.trans m.keep.os,hi.keep.tape.trans m.keep.tape,hi.keep.output.trans m.keep.output,acl m.keep.size hi.keep.size,fun l U ah=>?_⟩,fun x y A C=>?_,fun x y x' y' o1 T l c1 c2 M G q1 q2=>?_,fun x y A l D C q=>?_,fun l U=>acp (m.bar l U) hi.keep.size,fun x y A C=>?_⟩
  ·rw[ap l (acp U m.keep.size) fun h=>?_]
   ·exact m.keep.block l U ah
   obtain⟨y,A,D,E,J⟩:=(L l).1 h;rcases(m.old B y A l D E J).1 with g|g
   ·omega
   grind
  ·by_cases I:x=B
   ·subst I;obtain⟨T,Y,rfl⟩:=(N y A).1 C;obtain⟨z1,z2,z3⟩:=hi.objs 0 y T (by grind [famH]);refine⟨fun e he=>?_,z2,?_⟩
    ·simp only[renO,acn]at he;obtain⟨e',ag,rfl⟩:=he;rw[ac0];exact z1 e' ag
    rw[R];cases hr:ab 0 y with
    |none=>grind [renO]
    |some bc=>
     obtain⟨b',D⟩:=bc;rw[hr]at z3;obtain⟨cells,p1,p2,p3,p4,p5⟩:=z3;refine⟨cells,p1,p2,by grind [renO],p4,fun i e l z he hz=>?_⟩;simp only[renO,ach]at he;obtain⟨e',ag,rfl⟩:=acf.1 he;rw[ach]at hz;obtain⟨z',bp,rfl⟩:=acf.1 hz;obtain⟨u,u1,u2,u3⟩:=p5 i e' l z' ag bp;exact⟨u,u1,u2,br z' u (al T (acd Y) e' (acd ag) z' (acd bp)) u3⟩
   rw[Z x I]at C;have bh:=m.objs x y A C;obtain⟨z1,z2,z3⟩:=id bh;refine⟨z1,z2,?_⟩;rw[S x y I];cases hr:V x y with
   |none=>grind
   |some bc=>
    obtain⟨b',D⟩:=bc;rw[hr]at z3;obtain⟨cells,p1,p2,p3,p4,p5⟩:=z3;refine⟨cells,?_,p2,p3,p4,fun i e l z he hz=>?_⟩
    ·rw[ap b' (bz bh hr) fun h=>?_]
     ·exact p1
     obtain⟨y',T,c2,k1,k2⟩:=(L b').1 h;exact I (m.inj x y B y' A T b' D c2 C k1 hr k2).1
    obtain⟨u,u1,u2,u3⟩:=p5 i e l z he hz;exact⟨u,u1,u2,a6 x z u I (m.self x y A C e (acd he) z (acd hz)) u3⟩
  ·by_cases I:x=B
   ·subst I;obtain⟨o3,Y,_⟩:=(N y o1).1 M;rw[R]at q1;by_cases aa:x'=x
    ·subst aa;obtain⟨o4,g4,_⟩:=(N y' T).1 G;rw[R]at q2;exact⟨rfl,(hi.inj 0 y 0 y' o3 o4 l c1 c2 (by grind [famH]) (by grind [famH]) q1 q2).2⟩
    rw[Z x' aa]at G;rw[S x' y' aa]at q2;exfalso;have b1:=bz (m.objs x' y' T G) q2;rcases(ae y o3 l c1 Y q1).1 with g|g
    ·omega
    obtain⟨y3,o5,c5,k1,k2⟩:=(L l).1 g;exact aa (m.inj x' y' x y3 T o5 l c2 c5 G k1 q2 k2).1
   rw[Z x I]at M;rw[S x y I]at q1;by_cases aa:x'=B
   ·subst aa;obtain⟨o4,g4,_⟩:=(N y' T).1 G;rw[R]at q2;exfalso;have b1:=bz (m.objs x y o1 M) q1;rcases(ae y' o4 l c2 g4 q2).1 with g|g
    ·omega
    obtain⟨y3,o5,c5,k1,k2⟩:=(L l).1 g;exact I (m.inj x y x' y3 o1 o5 l c1 c5 M k1 q1 k2).1
   rw[Z x' aa]at G;rw[S x' y' aa]at q2;exact m.inj x y x' y' o1 T l c1 c2 M G q1 q2
  ·by_cases I:x=B
   ·subst I;obtain⟨o3,Y,_⟩:=(N y A).1 C;rw[R]at q;rcases(ae y o3 l D Y q).1 with g|g
    ·refine⟨.inl (acl m.keep.size g),fun hX=>?_⟩;have:=m.bar l hX;omega
    obtain⟨y3,o5,c5,k1,k2⟩:=(L l).1 g;exact m.old x y3 o5 l c5 k1 k2
   rw[Z x I]at C;rw[S x y I]at q;exact m.old x y A l D C q
  by_cases I:x=B
  ·subst I;obtain⟨o3,Y,rfl⟩:=(N y A).1 C;intro e he z hz;simp only[renO,acn]at he;grind [dM]
  rw[Z x I]at C;exact m.self x y A C
 have bn:bo X ρ1 ⟨s.tmps.map (aT (kM B)),H1⟩ a w1:=fun t x I=>by
  simp only[ach]at I;obtain⟨y,hy,rfl⟩:=acf.1 I;grind [sE]
 refine⟨by grind [gX],by grind [kK,ke],ρ1,by grind [gP],qo (s:=⟨s.tmps.map (aT (kM B)),H1⟩) (by grind) bn ?_⟩;exact Am (fun l U I=>af l U I) ac.noref b3
end
end
end Go.Proofs.YtalmoejhjceflaaGreat
