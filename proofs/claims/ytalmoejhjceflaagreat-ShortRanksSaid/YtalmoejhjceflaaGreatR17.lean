/-
  Part 18 of a proof (walks and plain facts).
-/
import Derived.Test.YtalmoejhjceflaaGreatR16
import Derived.Scope
set_option linter.all false
set_option maxRecDepth 100000
set_option maxHeartbeats 64000000
namespace Go.Proofs.YtalmoejhjceflaaGreat
open Go.RowKit
variable {b c:Code} {e:Nat->Prop} {f:List Int} {w:World} {g:List PV} {h:Operand} {j:TV} {l:TypeId} {n:Nat} {m:Rho} {o:Value} {s:AS}
section
section
variable {P:Program} {b:Nat} {ty:TypeId} {cs cs':List PV} {Q:Exit->AS->List PV->Prop} {s:AS}
end
theorem DJ {X:Nat->Prop} {a:Act} {A:World} (d:Nat) (hd:s.H d=[⟨l,g.length,[g.map AV.p]⟩]) (r:dx w e X s a A):
  ∃b,(w.heap.size<=b\/e b)/\ ¬X b/\gT b l w (fun j=>e j\/j=b) (fun j=>X j\/j=b) ⟨s.tmps.map (sN d b),ax s.H d []⟩ g a A:=by
 obtain⟨h1,ad,G,B,S⟩:=r;have S:aV X G s a A:=S;have F:(s.H d)[0]?=some ⟨l,g.length,[g.map AV.p]⟩:=by rw[hd];rfl
 obtain⟨z1,z2,z3⟩:=B.objs d 0 _ F;cases K:G d 0 with
 |none=>grind
 |some Z=>
  obtain⟨b,n⟩:=Z;rw[K]at z3;obtain⟨cells,p1,p2,p3,p4,p5⟩:=z3;have aa:=B.old d 0 _ b n F K;have I: ∀(x y:Nat) o,(ax s.H d [] x)[y]?=some o->x≠d/\(s.H x)[y]?=some o:=fun x y o R=>by
   grind [aM,aG]
  have W: ∀j,Xo (fun j=>X j\/j=b) G (ax s.H d []) j->Xo X G s.H j:=fun j D=>by
   rcases D with(D|rfl)|⟨x,y,o,n',M,C⟩
   ·exact .inl D
   ·exact .inr ⟨d,0,_,n,F,K⟩
   exact .inr ⟨x,y,o,n',(I x y o M).2,C⟩
  have Q: ∀x v,AV.rel G s.H (Xo X G s.H) A x v->AV.rel G (ax s.H d []) (Xo (fun j=>X j\/j=b) G (ax s.H d [])) A (i5 d b x) v:=gp (DR d b) fun x v hn N=>by
   cases x with
   |fn=>cases hn
   |p x=>exact bM.weaken (fun j _ D=>W j D) N
   |sl x r ae len=>
    simp only[i5];split
    ·trivial
    rename_i J;obtain⟨o,M,C⟩:=N;exact⟨o,by grind [aG],C⟩
   |ptr x r i j=>
    simp only[i5];split
    ·rename_i J;subst J;split
     ·rename_i hc;obtain⟨rfl,rfl,rfl⟩:=hc;obtain⟨o,Y,V,M,C,g3,g4⟩:=N;rw[K]at C;injection C with C
      injection C with C ac
      subst C;rw[g4];simp only[adP,aa5];exact bM.raw _ rfl
     trivial
    rename_i J;obtain⟨o,Y,V,M,C⟩:=N;exact⟨o,Y,V,by grind [aG],C⟩
   |junk=>trivial
  have P: ∀g v,bH G s.H (Xo X G s.H) A g v->bH G (ax s.H d []) (Xo (fun j=>X j\/j=b) G (ax s.H d [])) A (g.map (i5 d b)) v:=fun g v ⟨vs,M,C,g3⟩=>by
   refine⟨vs,M,by grind,fun j x N=>?_⟩;grind
  have ab:gT b l w (fun j=>e j\/j=b) (fun j=>X j\/j=b) ⟨s.tmps.map (sN d b),ax s.H d []⟩ g a A:=by
   refine⟨h1,by grind,G,⟨⟨B.keep.os,B.keep.tape,B.keep.output,B.keep.size,fun k hk hn=>B.keep.block k hk (fun h=>hn (.inl h))⟩,fun x y o R=>?_,fun x y x' y' o o' j c V R E=>B.inj x y x' y' o o' j c V (I x y o R).2 (I x' y' o' E).2,fun x y o j c R D=>?_,fun j D=>?_,fun x y o R=>B.self x y o (I x y o R).2⟩,fun t x N=>?_,.inr rfl,.inr rfl,?_⟩
   ·obtain⟨J,E⟩:=I x y o R;obtain⟨q1,q2,q3⟩:=B.objs x y o E;refine⟨q1,q2,?_⟩;cases hr:G x y with
    |none=>grind
    |some Z=>
     obtain⟨Y,V⟩:=Z;rw[hr]at q3;obtain⟨L,r1,r2,r3,r4,r5⟩:=q3;refine⟨L,r1,r2,r3,r4,fun i m j z he hz=>?_⟩;obtain⟨u,u1,u2,u3⟩:=r5 i m j z he hz;have T:=B.self x y o E m (aai he) z (aai hz);have:=Q z u u3;refine⟨u,u1,u2,?_⟩;cases z with
     |sl z _ _ _=>have T:z=x:=T;grind [i5]
     |ptr z _ _ _=>have T:z=x:=T;grind [i5]
     |fn _ z _=>have T:z=x:=T.1;grind [i5]
     |p z=>exact this
     |junk=>trivial
   ·obtain⟨J,E⟩:=I x y o R;obtain⟨M,C⟩:=B.old x y o j c E D;refine⟨?_,?_⟩
    ·grind
    rintro(q|rfl)
    ·exact C q
    exact J (B.inj x y d 0 o _ j c n E F D K).1
   ·rcases D with D|rfl
    ·exact B.bar j D
    grind
   ·simp only[aam]at N;obtain⟨y,hy,rfl⟩:=aak.1 N;obtain⟨v,v1,U⟩:=S t y hy;refine⟨v,v1,?_⟩;cases y with
    |one x=>exact Q x v U
    |agg g=>exact P g v U
    |fn f g=>obtain⟨u,h1,h2⟩:=U;exact⟨u,P g u h1,h2⟩
    |tup ts=>
     obtain⟨vs,M,C,g3⟩:=U;refine⟨vs,M,by grind,fun j c g D=>?_⟩;grind
   refine⟨cells,n,p1,p2,by omega,p4,z2,fun j x N=>?_⟩;obtain⟨v,v1,U,v3⟩:=p5 0 (g.map AV.p) j (.p x) rfl (by grind);exact⟨v,by grind,U,bM.weaken (fun j _ D=>W j D) v3⟩
  grind
def vP (d b:Nat):AV->AV
 | .p (.raw (.pointer (some ⟨c,0,none⟩)))=>if c=b then .ptr d 0 0 0 else .p (.raw (.pointer (some ⟨c,0,none⟩)))
 |x=>x
def FR (d b:Nat):TV->TV
 | .one x=> .one (vP d b x)
 | .agg c=> .agg (c.map (vP d b))
 | .fn f c=> .fn f (c.map (vP d b))
 | .tup e=> .tup (e.map fun t=>(t.1,t.2.map (vP d b)))
theorem C8 {X:Nat->Prop} {a:Act} {A:World} {d:Nat} (ae:w.heap.size<=n\/e n) (ah: ¬X n) (hd:s.H d=[]) (r:gT n l w (fun j=>e j\/j=n) (fun j=>X j\/j=n) s g a A):
  dx w e X ⟨s.tmps.map (FR d n),ax s.H d [⟨l,g.length,[g.map AV.p]⟩]⟩ a A:=by
 obtain⟨k1,al,P,B,Y,_,_,cells,m,p1,p2,p3,p4,p5,p6⟩:=r;have Y:aV (fun j=>X j\/j=n) P s a A:=Y;generalize V:newρ P d (fun r=>if r=0 then some (n,m)else none)=ρ2;generalize aa:ax s.H d [⟨l,g.length,[g.map AV.p]⟩]=K;have af:K d=[⟨l,g.length,[g.map AV.p]⟩]:=by rw[<- aa,aM]
 have F: ∀x,x≠d->K x=s.H x:=fun x C=>by rw[<- aa,aG C]
 have Q: ∀r,ρ2 d r=if r=0 then some (n,m)else none:=fun r=>by rw[<- V,newρ_eq]
 have M: ∀x r,x≠d->ρ2 x r=P x r:=fun x r C=>by rw[<- V,newρ_ne C]
 have J: ∀(y:Nat) o,(K d)[y]?=some o->y=0/\o=⟨l,g.length,[g.map AV.p]⟩:=fun y o D=>by
  grind
 have ab: ∀j,Xo X ρ2 K j->Xo (fun j=>X j\/j=n) P s.H j:=fun j E=>by
  rcases E with E|⟨x,y,o,c,R,L⟩
  ·exact .inl (.inl E)
  by_cases C:x=d
  ·subst C;obtain⟨rfl,_⟩:=J y o R;rw[Q,if_pos rfl]at L;injection L with L
   injection L with L
   exact .inl (.inr L.symm)
  rw[F x C]at R;rw[M x y C]at L;exact .inr ⟨x,y,o,c,R,L⟩
 have ac: ∀x v,AV.rel P s.H (Xo (fun j=>X j\/j=n) P s.H) A x v->AV.rel ρ2 K (Xo X ρ2 K) A x v:=qr fun x v hn C=>by
  cases x with
  |fn=>cases hn
  |p x=>exact bM.weaken (fun j _ E=>ab j E) C
  |sl x r ap len=>
   obtain⟨o,R,L⟩:=C;have ad:x≠d:=by grind
   exact⟨o,by grind,by grind⟩
  |ptr x r i j=>
   obtain⟨o,b',c,R,L,g3⟩:=C;have ad:x≠d:=by grind
   exact⟨o,b',c,by grind,by grind,g3⟩
  |junk=>trivial
 have W: ∀x v,AV.rel P s.H (Xo (fun j=>X j\/j=n) P s.H) A x v->AV.rel ρ2 K (Xo X ρ2 K) A (vP d n x) v:=fun x v C=>by
  unfold vP;split
  ·split
   ·rename_i hb;subst hb;obtain⟨rfl,_⟩:=aX (ρ:=P) (H:=s.H) C;exact⟨⟨l,g.length,[g.map AV.p]⟩,_,m,by grind,by rw[Q,if_pos rfl],by simp,by simp⟩
   grind
  grind
 have U: ∀g v,bH P s.H (Xo (fun j=>X j\/j=n) P s.H) A g v->bH ρ2 K (Xo X ρ2 K) A (g.map (vP d n)) v:=fun g v ⟨vs,R,L,g3⟩=>by
  refine⟨vs,R,by grind,fun j x C=>?_⟩;grind
 refine⟨k1,by grind,ρ2,⟨⟨B.keep.os,B.keep.tape,B.keep.output,B.keep.size,fun k hk hn=>?_⟩,fun x y o D=>?_,fun x y T Z o o' j c c' D I E G=>?_,fun x y o j c D E=>?_,fun j E=>B.bar j (.inl E),fun x y o D=>?_⟩,fun t x C=>?_⟩
 ·by_cases ag:k=n
  ·grind
  exact B.keep.block k hk (fun hh=>by
   grind)
 ·by_cases C:x=d
  ·subst C;obtain⟨rfl,rfl⟩:=J y o D;refine⟨fun h S=>by grind,p5,?_⟩;rw[Q,if_pos rfl];refine⟨cells,p1,p2,by omega,p4,fun i h j z S hz=>?_⟩
   match i,S with
   |0,S=>
    simp at S;subst S;rw[aam]at hz;obtain⟨y,hy,rfl⟩:=aak.1 hz;obtain⟨v,v1,v2,v3⟩:=p6 j y hy;exact⟨v,by grind,v2,bM.weaken (fun j _ E=>ab j E) v3⟩
   |i+1,S=>simp at S
  replace D:(K x)[y]?=some o:=D
  rw[F x C]at D;exact dP (B.objs x y o D) (M x y C) (fun _ _ _=>rfl) ac
 ·by_cases C:x=d
  ·subst C;obtain⟨rfl,_⟩:=J y o D;rw[Q,if_pos rfl]at E;injection E with E
   injection E with E _
   subst E;by_cases N:T=x
   ·grind
   replace I:(K T)[Z]?=some o':=I
   rw[F T N]at I;rw[M T Z N]at G;exact absurd (.inr rfl) (B.old T Z o' _ c' I G).2
  replace D:(K x)[y]?=some o:=D
  rw[F x C]at D;rw[M x y C]at E;by_cases N:T=d
  ·subst N;obtain⟨rfl,_⟩:=J Z o' I;rw[Q,if_pos rfl]at G;injection G with G
   injection G with G _
   subst G;exact absurd (.inr rfl) (B.old x y o _ c D E).2
  replace I:(K T)[Z]?=some o':=I
  rw[F T N]at I;rw[M T Z N]at G;exact B.inj x y T Z o o' j c c' D I E G
 ·by_cases C:x=d
  ·grind
  replace D:(K x)[y]?=some o:=D
  rw[F x C]at D;rw[M x y C]at E;obtain⟨R,L⟩:=B.old x y o j c D E;grind
 ·by_cases C:x=d
  ·subst C;obtain⟨_,rfl⟩:=J y o D;intro h S z hz;simp at S;subst S;obtain⟨q,_,rfl⟩:=aau.1 hz;trivial
  replace D:(K x)[y]?=some o:=D
  rw[F x C]at D;exact B.self x y o D
 simp only[aam]at C;obtain⟨y,hy,rfl⟩:=aak.1 C;obtain⟨v,v1,v2⟩:=Y t y hy;refine⟨v,v1,?_⟩;cases y with
 |one x=>exact W x v v2
 |agg g=>exact U g v v2
 |fn f g=>obtain⟨u,h1,h2⟩:=v2;exact⟨u,U g u h1,h2⟩
 |tup ts=>
  obtain⟨vs,R,L,g3⟩:=v2;refine⟨vs,R,by grind,fun j c g E=>?_⟩;grind
theorem vu {P:Program} {Q:Exit->AS->Prop} (d:Nat) {cs:List PV} (u:s.H d=[⟨l,cs.length,[cs.map AV.p]⟩]) (h: ∀f,dV P f l b (fun e j g=>j.H d=[]/\Q e ⟨j.tmps.map (FR d f),ax j.H d [⟨l,g.length,[g.map AV.p]⟩]⟩) ⟨s.tmps.map (sN d f),ax s.H d []⟩ cs):bf P b Q s:=fun z O X a w r=>by
 obtain⟨f,o,q,t⟩:=DJ d u r;exact wp_mono (h f _ _ _ _ _ t) fun e x y ⟨j,g,⟨m,n⟩,v⟩=>⟨_,n,C8 o q m v⟩
end
section
def noG (Q:Exit->AS->Prop):Exit->AS->Prop
 | .goto _,_=>False
 |e,s=>Q e s
section
variable {P:Program} {s:AS} {Q:Exit->AS->Prop}
theorem Kk (h:bf P b (noG Q) s):bf P (.scope b) Q s:=fun _ _ _ _ _ r=>
 wp_scope_straight (wp_mono (h _ _ _ _ _ r) fun e a w ⟨j,f,g⟩=>by
  cases e<;>first|exact⟨j,f,g⟩|exact f.elim)
theorem Ki (h:Q .normal s):bf P (.label n) Q s:=fun _ _ _ _ _ r=>wp_label ⟨s,h,r⟩
end
section
variable {P:Program} {b:Nat} {ty:TypeId} {cs:List PV} {s:AS} {Q:Exit->AS->List PV->Prop}
theorem CX (k d:Nat) (C:s.tmps[k]?=some (.raw (.pointer (some ⟨b,0,none⟩)))) (B:s.H d=[]) (h:fH P k c (fun e n=> ∃f,n.H d=[⟨ty,f.length,[f.map AV.p]⟩]/\n.tmps[k]?=some (.one (.ptr d 0 0 0))/\Q e ⟨n.tmps.map (sN d b),ax n.H d []⟩ f) ⟨s.tmps.map (FR d b),ax s.H d [⟨ty,cs.length,[cs.map AV.p]⟩]⟩):dV P b ty c Q s cs:=fun I O X a w r=>by
 have q:O b:=by obtain⟨_,_,_,_,_,q,_⟩:=r;exact q
 have y:X b:=by obtain⟨_,_,_,_,_,_,y,_⟩:=r;exact y
 have K:(fun j=>O j\/j=b)=O:=by
  grind
 have L:(fun j=>(X j/\j≠b)\/j=b)=X:=by
  grind
 have g:a.tmps[k]?=some (.pointer (some ⟨b,0,none⟩)):=by
  obtain⟨_,_,u,_,l,_⟩:=r;obtain⟨v,o,t⟩:=l k _ C;rw[o,(aX (H:=s.H) (ρ:=u) t).1]
 have G:gT b ty I (fun j=>O j\/j=b) (fun j=>(X j/\j≠b)\/j=b) s cs a w:=by grind
 have m:=C8 (.inr q) (fun h=>h.2 rfl) B G;refine wp_mono (h _ _ _ _ _ _ ⟨m,g⟩) fun e J T ⟨n,⟨f,F,R,S⟩,D,E⟩=>?_
 obtain⟨x,M,N,z⟩:=DJ d F D;have A:x=b:=by
  obtain⟨_,_,u,_,l,_⟩:=id z;obtain⟨v,o,t⟩:=l k (.raw (.pointer (some ⟨x,0,none⟩))) (by
   grind [sN,i5])
  rw[E]at o;injection o with o
  have:=(aX t).1;grind
 subst A;grind
end
end
section
def famB (F:List OObj) (b:Rho):Nat->Prop:=fun j=> ∃(r:Nat) (o:OObj) (c:Nat),F[r]?=some o/\b 0 r=some (j,c)
theorem GP {l:Rho} {H s:OH} {n:Nat->Prop} (E: ∀b,b<w.heap.size->n b->e b) (q:noRefTV j=true) (h:j.rel m H e w o):j.rel l s n w o:=by
 have A: ∀x u,fm x=true->AV.rel m H e w x u->AV.rel l s n w x u:=fun x u z G=>by
  cases x with
  |p x=>exact bM.weaken E G
  |junk=>trivial
  |_=>cases z
 have agg: ∀g o,g.all fm=true->bH m H e w g o->bH l s n w g o:=fun g o F ⟨vs,t,y,B⟩=>by
  simp only[aat]at F;exact⟨vs,t,y,fun b x z=>by grind⟩
 cases j with
 |one x=>exact A x o q h
 |agg g=>exact agg g o q h
 |fn f g=>obtain⟨u,C,D⟩:=h;exact⟨u,agg g u q C,D⟩
 |tup J=>
  simp only[noRefTV,aat]at q;obtain⟨vs,t,y,B⟩:=h;refine⟨vs,t,y,fun b c g I=>?_⟩;grind
section
variable {P:Program} {s:AS} {a:Act} {w0 w:World} {O X:Nat->Prop}
end
end
section
structure UR (P:Program) (b:Nat) (ty:TypeId) (cs:List PV) where
 i:Nat
 f:FuncId
 args:List TV
 res:CallRes
 h:CallT P b ty f args cs res cs
 ok:lentOk args res cs=true
def UR.a {P:Program} {b:Nat} {g:TypeId} {e:List PV} (c:UR P b g e):df P:=⟨c.i,c.f,c.args,c.res⟩
section
variable {P:Program} {b:Nat} {ty:TypeId} {cs:List PV} {Q:Exit->AS->List PV->Prop} {s:AS}
end
end
section
def Yf (b:Nat) (_ty:TypeId) (c:List PV) (w:World):Prop:=
 b<w.heap.size/\ ∀(j:Nat) x,c[j]?=some x-> ∃v:Value,x= .raw v/\w.cell? ⟨b,j,none⟩=some v/\v.oneCell'=true
def Yr (b:Nat) (f:TypeId) (c:World) (O X:Nat->Prop) (s:AS) (e:List PV) (a:Act) (w:World):Prop:=dx c O X s a w/\Yf b f e c/\ ¬O b
section
variable {P:Program} {b:Nat} {ty:TypeId} {cs cs':List PV} {s s':AS} {w0 w:World} {O X:Nat->Prop} {a:Act}
def tz (P:Program) (b:Nat) (ty:TypeId) (c:Code) (Q:Exit->AS->List PV->Prop) (s:AS) (cs:List PV):Prop:=
 ∀(w0:World) (O X:Nat->Prop) (a:Act) (w:World),Yr b ty w0 O X s cs a w->c.wp P (fun e f g=> ∃s' cs',Q e s' cs'/\Yr b ty w0 O X s' cs' f g) a w
variable {Q:Exit->AS->List PV->Prop}
theorem VP (h:bf P c (fun e s'=>Q e s' cs) s):tz P b ty c Q s cs:=fun w0 O X a w r=>
 wp_mono (h _ _ _ _ _ r.1) fun e j l ⟨s',f,g⟩=>⟨s',cs,f,g,r.2⟩
theorem CM (h:Q .normal s cs):tz P b ty .skip Q s cs:=fun _ _ _ _ _ r=>wp_skip ⟨s,cs,h,r⟩
theorem RZ {y:Code} (h:tz P b ty c (oX (tz P b ty y Q) Q) s cs):tz P b ty (.seq c y) Q s cs:=fun _ _ _ _ _ r=>
 wp_seq (wp_mono (h _ _ _ _ _ r) fun e a w ⟨s',cs',f,g⟩=>by
  cases e with
  |normal=>exact f _ _ _ _ _ g
  |_=>exact⟨s',cs',f,g⟩)
theorem CL {y:Code} {v:Bool} (l:s.ev h=some (.raw (.bool v))) (o:v=true->tz P b ty c Q s cs) (m:v=false->tz P b ty y Q s cs):tz P b ty (.cond h c y) Q s cs:=fun _ _ _ _ _ r=>by
 obtain⟨⟨p,n,q,g,f⟩,_⟩:=id r;have j:=(aX (bz f h _ l)).1;exact wp_cond_split j (fun e=>o e _ _ _ _ _ r) (fun e=>m e _ _ _ _ _ r)
theorem VO {y:Code} (f:s.ev h=some (.raw (.bool true))) (e:tz P b ty c Q s cs):tz P b ty (.cond h c y) Q s cs:=CL f (fun _=>e) (fun e=>by cases e)
theorem VN {y:Code} (f:s.ev h=some (.raw (.bool false))) (e:tz P b ty y Q s cs):tz P b ty (.cond h c y) Q s cs:=CL f (fun e=>by cases e) (fun _=>e)
/-! Regions. -/
theorem M4 (e:List (ao P)) (g:List Nat) {id:Nat} {f:Array Oper} (h: ∀K:AS->Prop,(∀s',tz P b ty c Q s' cs->K s')->aS P (e.map ao.a) g (aJ f f.toList 0) (some s) K):tz P b ty (.seq (.region id f false) c) Q s cs:=
 RZ (VP (qh e g (h _ fun _ h=>h)))
theorem yH {id:Nat} {e:Array Oper} (h: ∀K:AS->Prop,(∀s',tz P b ty c Q s' cs->K s')->aS P [] [] (aJ e e.toList 0) (some s) K):tz P b ty (.seq (.region id e false) c) Q s cs:=M4 [] [] h
def CallG (P:Program) (b:Nat) (ty:TypeId) (f:FuncId) (args:List TV) (cs:List PV) (res:CallRes):Prop:=callable P f=true/\ ∀w,Yf b ty cs w->Fk P f args res w
end
structure UM (P:Program) (b:Nat) (ty:TypeId) (cs:List PV) where
 i:Nat
 f:FuncId
 args:List TV
 res:CallRes
 h:CallG P b ty f args cs res
 ok:cs=cs
def UM.a {P:Program} {b:Nat} {g:TypeId} {e:List PV} (c:UM P b g e):df P:=⟨c.i,c.f,c.args,c.res⟩
section
variable {P:Program} {b:Nat} {ty:TypeId} {cs cs':List PV} {s s':AS} {w0 w:World} {O X:Nat->Prop} {a:Act} {Q:Exit->AS->List PV->Prop}
end
end
section
section
variable {ρ ρ':Rho} {H H':OH} {Y Y':Nat->Prop} {w w':World} {d:Nat}
theorem LM (m:selfTV 0 j) (h:j.rel ρ H Y w o) (k: ∀x o,bs 0 x->AV.rel ρ H Y w x o->AV.rel ρ' H' Y' w' (cb d x) o):(renTV d j).rel ρ' H' Y' w' o:=by
 have agg: ∀g o,(∀x∈g,bs 0 x)->bH ρ H Y w g o->bH ρ' H' Y' w' (g.map (cb d)) o:=fun g o C ⟨vs,n,y,q⟩=>by
  refine⟨vs,n,by grind,fun b x D=>?_⟩;grind
 cases j with
 |one x=>exact k x o m h
 |agg g=>exact agg g o m h
 |fn f g=>obtain⟨u,z,A⟩:=h;exact⟨u,agg g u m z,A⟩
 |tup E=>
  obtain⟨vs,n,y,q⟩:=h;refine⟨vs,n,by grind,fun b c g r=>?_⟩;rw[aam]at r;obtain⟨⟨p,l⟩,s,e⟩:=aak.1 r;simp at e;obtain⟨rfl,rfl⟩:=e;obtain⟨u,F,G⟩:=q b p l s;have B: ∀x∈l,bs 0 x:=m (p,l) (aai s);grind
theorem G4 (m:selfTV 0 j) (h:(renTV d j).rel ρ H Y w o) (k: ∀x o,bs 0 x->AV.rel ρ H Y w (cb d x) o->AV.rel ρ' H' Y' w' x o):j.rel ρ' H' Y' w' o:=by
 have agg: ∀g o,(∀x∈g,bs 0 x)->bH ρ H Y w (g.map (cb d)) o->bH ρ' H' Y' w' g o:=fun g o E ⟨vs,p,s,q⟩=>by
  refine⟨vs,p,by grind,fun b x F=>?_⟩;obtain⟨u,r,n,D⟩:=q b (cb d x) (by grind);grind
 cases j with
 |one x=>exact k x o m h
 |agg g=>exact agg g o m h
 |fn f g=>obtain⟨u,z,A⟩:=h;exact⟨u,agg g u m z,A⟩
 |tup G=>
  obtain⟨vs,p,s,q⟩:=h;refine⟨vs,p,by grind,fun b c g B=>?_⟩;obtain⟨u,r,n⟩:=q b c (g.map (cb d)) (by grind);have C: ∀x∈g,bs 0 x:=m (c,g) (aai B);refine⟨u,r,?_⟩;rcases n with⟨n,D⟩|⟨n,x,e,I⟩
  ·grind
  cases g with
  |nil=>cases e
  |cons y l=>
   simp at e;grind
end
def Yt (P:Program) (c:Func) (b:List OObj) (r:TV) (s:AS):Prop:=s.H=famH 0 b/\pS P s c.results.toList=some r
def kF (b:Nat):Nat->Nat->Bool:=fun x _=>x==b
section
variable {P:Program} {s:AS} {a:Act} {w0 w:World} {O X:Nat->Prop}
theorem zk {B:Nat->Prop} (h1:a.defers=[]) (bw:a.tmps.size=s.tmps.length) (A:Inv w0 O X s.H m w) (bx:aV X m s a w) (hB: ∀f,B f->O f/\X f) {F Z:List OObj} (sR:selfTV 0 j) (ap: ∀o∈F,selfO 0 o) (af: ∀o∈Z,selfO 0 o) (bd:n<=4999) (bq:s.H n=F.map (renO n)):
  ∃(X1:Nat->Prop) (N:Rho),Inv w (fun f=>famB F N f\/B f) X1 (famH 0 F) N w/\(∀f,B f->X1 f)/\
   (∀t v,selfTV 0 t->(renTV n t).rel m s.H (Xo X m s.H) w v->t.rel N (famH 0 F) (Xo X1 N (famH 0 F)) w v)/\
   (∀f,famB F N f-> ∃(y:Nat) (o:OObj) (c:Nat),(s.H n)[y]?=some o/\m n y=some (f,c))/\
   (∀y,N 0 y=m n y)/\
   ∀v w1 Q,Inv w (fun f=>famB F N f\/B f) X1 (famH 0 Z) Q w1->j.rel Q (famH 0 Z) (Xo X1 Q (famH 0 Z)) w1 v-> ∃G:Rho,(∀y,G n y=Q 0 y)/\Inv w0 O X (ax s.H n (Z.map (renO n))) G w1/\(∀x v,AV.rel m s.H (Xo X m s.H) w x v->AV.rel G (ax s.H n (Z.map (renO n))) (Xo X G (ax s.H n (Z.map (renO n)))) w1 (aO (kF n) x) v)/\(renTV n j).rel G (ax s.H n (Z.map (renO n))) (Xo X G (ax s.H n (Z.map (renO n)))) w1 v:=by
 have hF: ∀(y:Nat) C,(s.H n)[y]?=some C↔ ∃o,F[y]?=some o/\C=renO n o:=fun y C=>by
  grind
 let N:Rho:=fun x y=>if x=0 then m n y else none
 have ae: ∀y,N 0 y=m n y:=fun y=>if_pos rfl
 let own:Nat->Prop:=famB F N
 have L: ∀f,own f↔ ∃(y:Nat) (C:OObj) (E:Nat),(s.H n)[y]?=some C/\m n y=some (f,E):=fun f=>by
  constructor
  ·rintro⟨y,o,E,I,K⟩;grind
  rintro⟨y,C,E,I,K⟩;obtain⟨o,g3,_⟩:=(hF y C).1 I;exact⟨y,o,E,g3,by grind⟩
 have bn: ∀f,own f->Xo X m s.H f:=fun f R=>by
  obtain⟨y,C,E,I,K⟩:=(L f).1 R;exact .inr ⟨n,y,C,E,I,K⟩
 let X1:Nat->Prop:=fun f=>Xo X m s.H f/\ ¬own f
 have a4: ∀f,Xo X m s.H f->f<w.heap.size:=fun b hb=>by
  rcases hb with hb|⟨x,y,C,l,I,K⟩
  ·exact A.bar b hb
  exact bJ (A.objs x y C I) K
 have a7:Xo X1 N (famH 0 F)=Xo X m s.H:=by
  funext f;apply propext;constructor
  ·rintro(h|⟨x,y,C,E,I,K⟩)
   ·exact h.1
   grind [famH]
  intro h;by_cases R:own f
  ·obtain⟨y,C,E,I,K⟩:=R;exact .inr ⟨0,y,C,E,by grind [famH],K⟩
  exact .inl ⟨h,R⟩
 have f0: ∀(x y:Nat) C,(famH 0 F x)[y]?=some C->x=0/\F[y]?=some C:=fun x y C h=>by
  grind [famH]
 have ah: ∀x v,bs 0 x->AV.rel m s.H (Xo X m s.H) w (cb n x) v->AV.rel N (famH 0 F) (Xo X m s.H) w x v:=Kv fun x v hn U h=>by
  cases x with
  |fn=>cases hn
  |p x=>exact h
  |junk=>trivial
  |sl z y a9 len=>
   have U:z=0:=U;subst U;obtain⟨C,I,K,g3⟩:=h;obtain⟨V,g4,rfl⟩:=(hF y C).1 I;exact⟨V,by grind [famH],by grind [renO],tf bd g3 (ae y)⟩
  |ptr z y i f=>
   have U:z=0:=U;subst U;obtain⟨C,b',E,I,K,g3,g5⟩:=h;obtain⟨V,g4,rfl⟩:=(hF y C).1 I;exact⟨V,b',E,by grind [famH],by grind,by grind [renO],g5⟩
 have a2: ∀f,B f->X1 f:=fun f R=>⟨.inl (hB f R).2,fun⟨y,C,E,I,K⟩=>(A.old n y _ f E ((hF y _).2 ⟨C,I,rfl⟩) (by grind)).2 (hB f R).2⟩
 have al:Inv w (fun f=>own f\/B f) X1 (famH 0 F) N w:=by
  refine⟨Keep.refl w,fun x y C D=>?_,fun x y x' y' o1 V f c1 c2 Y J q1 q2=>?_,fun x y C f E D q=>?_,fun f R=>a4 f R.1,fun x y C D=>?_⟩
  ·obtain⟨rfl,D⟩:=f0 x y C D;rw[a7];obtain⟨z1,z2,z3⟩:=A.objs n y (renO n C) ((hF y _).2 ⟨C,D,rfl⟩);refine⟨fun e he=>?_,z2,?_⟩
   ·have:=z1 (e.map (cb n)) (by grind [renO]);grind [renO]
   rw[ae];cases hr:m n y with
   |none=>rw[hr]at z3;simpa[renO] using z3
   |some bc=>
    obtain⟨b',E⟩:=bc;rw[hr]at z3;obtain⟨cells,p1,p2,p3,p4,p5⟩:=z3;refine⟨cells,p1,p2,by grind [renO],p4,fun i e f z he hz=>?_⟩;obtain⟨u,u1,u2,u3⟩:=p5 i (e.map (cb n)) f (cb n z) (by simp[renO,he]) (by grind);exact⟨u,u1,u2,ah z u (ap C (aai D) e (aai he) z (aai hz)) u3⟩
  ·obtain⟨rfl,Y⟩:=f0 x y o1 Y;obtain⟨rfl,J⟩:=f0 x' y' V J;exact⟨rfl,(A.inj n y n y' _ _ f c1 c2 ((hF y _).2 ⟨o1,Y,rfl⟩) ((hF y' _).2 ⟨V,J,rfl⟩) (by grind) (by grind)).2⟩
  ·grind
  grind
 refine⟨X1,N,al,a2,fun t v U h=>?_,fun f R=>(L f).1 R,ae,?_⟩
 ·grind [G4]
 intro v w1 Q hi bt;have f1: ∀(x y:Nat) C,(famH 0 Z x)[y]?=some C->x=0/\Z[y]?=some C:=fun x y C h=>by
  grind [famH]
 generalize a3:ax s.H n (Z.map (renO n))=H1;generalize bp:(fun x y=>if x=n then Q 0 y else m x y:Rho)=G;have br:H1 n=Z.map (renO n):=by rw[<- a3];exact aM
 have aa: ∀x,x≠n->H1 x=s.H x:=fun x h=>by rw[<- a3];exact aG h
 have S: ∀y,G n y=Q 0 y:=fun y=>by grind
 have T: ∀x y,x≠n->G x y=m x y:=fun x y h=>by grind
 have W: ∀(y:Nat) C,(H1 n)[y]?=some C↔ ∃o,Z[y]?=some o/\C=renO n o:=fun y C=>by
  grind
 have ag: ∀f,f<w.heap.size-> ¬own f-> ¬B f->w1.heap[f]?=w.heap[f]?:=fun f R ad bm=>hi.keep.block f R fun h=>h.elim ad bm
 have ac: ∀(y:Nat) C f E,Z[y]?=some C->Q 0 y=some (f,E)->(w.heap.size<=f\/own f)/\ ¬X1 f:=fun y C f E I K=>by
  obtain⟨k1,k2⟩:=hi.old 0 y C f E (by grind [famH]) K;grind
 have bb: ∀f,f<w.heap.size->Xo X G H1 f->Xo X m s.H f:=fun f R h=>by
  rcases h with h|⟨x,y,C,E,I,K⟩
  ·exact .inl h
  by_cases M:x=n
  ·grind
  rw[aa x M]at I;rw[T x y M]at K;exact .inr ⟨x,y,C,E,I,K⟩
 have a1: ∀x v,bM (Xo X m s.H) w x v->bM (Xo X G H1) w1 x v:=fun x v h=>bM.later (fun f R M=>bb f R M) hi.keep.size (fun p v hp ad hc=>by
  grind [iz]) h
 -- what the call says of the family, told of number n
 have av: ∀f,f<w1.heap.size->Xo X G H1 f->Xo X1 Q (famH 0 Z) f:=fun f _ h=>by
  rcases h with h|⟨x,y,C,E,I,K⟩
  ·have R:=A.bar f h;by_cases J:own f
   ·obtain⟨y,C,E,I,K⟩:=(L f).1 J;exact absurd h (A.old n y C f E I K).2
   exact .inl ⟨.inl h,J⟩
  by_cases M:x=n
  ·subst M;obtain⟨V,g3,_⟩:=(W y C).1 I;rw[S]at K;exact .inr ⟨0,y,V,E,by grind [famH],K⟩
  rw[aa x M]at I;rw[T x y M]at K;by_cases J:own f
  ·obtain⟨y',V,c2,k1,k2⟩:=(L f).1 J;exact absurd (A.inj x y n y' C V f E c2 I k1 K k2).1 M
  exact .inl ⟨.inr ⟨x,y,C,E,I,K⟩,J⟩
 have ba: ∀x v,bs 0 x->AV.rel Q (famH 0 Z) (Xo X1 Q (famH 0 Z)) w1 x v->AV.rel G H1 (Xo X G H1) w1 (cb n x) v:=j3 (c:=bs 0) (fun _ _ _ _ _ _ h=>h.1) (oC n) fun x v hn U h=>by
  cases x with
  |fn=>cases hn
  |p x=>exact bM.weaken (fun f R M=>av f R M) h
  |junk=>trivial
  |sl z y a9 len=>
   have U:z=0:=U;subst U;obtain⟨C,I,K,g3⟩:=h;obtain⟨_,I⟩:=f1 0 y C I;exact⟨renO n C,(W y _).2 ⟨C,I,rfl⟩,by grind [renO],tf (by decide) g3 (S y)⟩
  |ptr z y i f=>
   have U:z=0:=U;subst U;obtain⟨C,b',E,I,K,g3,g5⟩:=h;obtain⟨_,I⟩:=f1 0 y C I;exact⟨renO n C,b',E,(W y _).2 ⟨C,I,rfl⟩,by grind,by grind [renO],g5⟩
 have mono: ∀x v,AV.rel m s.H (Xo X m s.H) w x v->AV.rel G H1 (Xo X G H1) w1 (aO (kF n) x) v:=gp (pH _) fun x v hn h=>by
  cases x with
  |fn=>cases hn
  |p x=>exact a1 x v h
  |junk=>trivial
  |sl z y a9 len=>
   obtain⟨C,I,K,g3⟩:=h;simp only[aO];by_cases hz:z=n
   ·rw[if_pos (by simp[kF,hz])];trivial
   rw[if_neg (by simp[kF,hz])];exact⟨C,by grind,K,by grind⟩
  |ptr z y i f=>
   obtain⟨C,b',E,I,K,g3,g5⟩:=h;simp only[aO];by_cases hz:z=n
   ·rw[if_pos (by simp[kF,hz])];trivial
   rw[if_neg (by simp[kF,hz])];exact⟨C,b',E,by grind,by grind,g3,g5⟩
 have a0: ∀(z:Nat) x v,z≠n->bs z x->AV.rel m s.H (Xo X m s.H) w x v->AV.rel G H1 (Xo X G H1) w1 x v:=fun z x v hz U h=>by
  have:=mono x v h;cases x with
  |sl y _ _ _=>have U:y=z:=U;grind [aO,kF]
  |ptr y _ _ _=>have U:y=z:=U;grind [aO,kF]
  |fn _ y _=>have U:y=z:=U.1;grind [aO,kF]
  |p x=>exact this
  |junk=>trivial
 have bh:Inv w0 O X H1 G w1:=by
  refine⟨⟨hi.keep.os.trans A.keep.os,hi.keep.tape.trans A.keep.tape,hi.keep.output.trans A.keep.output,aap A.keep.size hi.keep.size,fun f R ad=>?_⟩,fun x y C D=>?_,fun x y x' y' o1 V f c1 c2 Y J q1 q2=>?_,fun x y C f E D q=>?_,fun f R=>aaA (A.bar f R) hi.keep.size,fun x y C D=>?_⟩
  ·rw[ag f (aaA R A.keep.size) (fun h=>?_) (fun h=>ad (hB f h).1)]
   ·exact A.keep.block f R ad
   obtain⟨y,C,E,I,K⟩:=(L f).1 h;rcases(A.old n y C f E I K).1 with g|g
   ·omega
   grind
  ·by_cases M:x=n
   ·subst M;obtain⟨V,g3,rfl⟩:=(W y C).1 D;obtain⟨z1,z2,z3⟩:=hi.objs 0 y V (by grind [famH]);refine⟨fun e he=>?_,z2,?_⟩
    ·grind [renO]
    rw[S];cases hr:Q 0 y with
    |none=>grind [renO]
    |some bc=>
     obtain⟨b',E⟩:=bc;rw[hr]at z3;obtain⟨cells,p1,p2,p3,p4,p5⟩:=z3;refine⟨cells,p1,p2,by grind [renO],p4,fun i e f z he hz=>?_⟩;simp only[renO,aam]at he;obtain⟨e',a5,rfl⟩:=aak.1 he;rw[aam]at hz;obtain⟨z',a8,rfl⟩:=aak.1 hz;obtain⟨u,u1,u2,u3⟩:=p5 i e' f z' a5 a8;exact⟨u,u1,u2,ba z' u (af V (aai g3) e' (aai a5) z' (aai a8)) u3⟩
   rw[aa x M]at D;have a6:=A.objs x y C D;obtain⟨z1,z2,z3⟩:=id a6;refine⟨z1,z2,?_⟩;rw[T x y M];cases hr:m x y with
   |none=>grind
   |some bc=>
    obtain⟨b',E⟩:=bc;rw[hr]at z3;obtain⟨cells,p1,p2,p3,p4,p5⟩:=z3;refine⟨cells,?_,p2,p3,p4,fun i e f z he hz=>?_⟩
    ·rw[ag b' (bJ a6 hr) (fun h=>?_) (fun h=>(A.old x y C b' E D hr).2 (hB b' h).2)]
     ·exact p1
     obtain⟨y',V,c2,k1,k2⟩:=(L b').1 h;exact M (A.inj x y n y' C V b' E c2 D k1 hr k2).1
    obtain⟨u,u1,u2,u3⟩:=p5 i e f z he hz;exact⟨u,u1,u2,a0 x z u M (A.self x y C D e (aai he) z (aai hz)) u3⟩
  ·by_cases M:x=n
   ·subst M;obtain⟨o3,g3,_⟩:=(W y o1).1 Y;rw[S]at q1;by_cases ab:x'=x
    ·subst ab;obtain⟨o4,g4,_⟩:=(W y' V).1 J;rw[S]at q2;exact⟨rfl,(hi.inj 0 y 0 y' o3 o4 f c1 c2 (by grind [famH]) (by grind [famH]) q1 q2).2⟩
    rw[aa x' ab]at J;rw[T x' y' ab]at q2;exfalso;have bl:=bJ (A.objs x' y' V J) q2;rcases(ac y o3 f c1 g3 q1).1 with g|g
    ·omega
    obtain⟨y3,o5,c5,k1,k2⟩:=(L f).1 g;exact ab (A.inj x' y' x y3 V o5 f c2 c5 J k1 q2 k2).1
   rw[aa x M]at Y;rw[T x y M]at q1;by_cases ab:x'=n
   ·subst ab;obtain⟨o4,g4,_⟩:=(W y' V).1 J;rw[S]at q2;exfalso;have bl:=bJ (A.objs x y o1 Y) q1;rcases(ac y' o4 f c2 g4 q2).1 with g|g
    ·omega
    obtain⟨y3,o5,c5,k1,k2⟩:=(L f).1 g;exact M (A.inj x y x' y3 o1 o5 f c1 c5 Y k1 q1 k2).1
   rw[aa x' ab]at J;rw[T x' y' ab]at q2;exact A.inj x y x' y' o1 V f c1 c2 Y J q1 q2
  ·by_cases M:x=n
   ·subst M;obtain⟨o3,g3,_⟩:=(W y C).1 D;rw[S]at q;rcases(ac y o3 f E g3 q).1 with g|g
    ·refine⟨.inl (aap A.keep.size g),fun hX=>?_⟩;have:=A.bar f hX;omega
    obtain⟨y3,o5,c5,k1,k2⟩:=(L f).1 g;exact A.old x y3 o5 f c5 k1 k2
   rw[aa x M]at D;rw[T x y M]at q;exact A.old x y C f E D q
  by_cases M:x=n
  ·subst M;obtain⟨o3,g3,rfl⟩:=(W y C).1 D;intro e he z hz;simp only[renO,aau]at he;grind [dB]
  rw[aa x M]at D;exact A.self x y C D
 grind [LM]
theorem ws {B:Nat->Prop} (R:a.defers=[]) (I:a.tmps.size=s.tmps.length) (A:Inv w0 O X s.H m w) (C:aV X m s a w) (S: ∀b,B b->O b/\X b) {F h:List OObj} (Y:selfTV 0 j) (p: ∀o∈F,selfO 0 o) (g: ∀o∈h,selfO 0 o) (G:n<=4999) (z:s.H n=F.map (renO n)):
  ∃(l:Nat->Prop) (e:Rho),Inv w (fun b=>famB F e b\/B b) l (famH 0 F) e w/\(∀b,B b->l b)/\
   (∀t v,selfTV 0 t->(renTV n t).rel m s.H (Xo X m s.H) w v->t.rel e (famH 0 F) (Xo l e (famH 0 F)) w v)/\
   (∀b,famB F e b-> ∃(y:Nat) (o:OObj) (c:Nat),(s.H n)[y]?=some o/\m n y=some (b,c))/\
   ∀v q f,Inv w (fun b=>famB F e b\/B b) l (famH 0 h) f q->j.rel f (famH 0 h) (Xo l f (famH 0 h)) q v-> ∀d,dx w0 O X (AS.put ⟨s.tmps.map (aP (kF n)),ax s.H n (h.map (renO n))⟩ d (renTV n j)) (a.put d v) q:=by
 obtain⟨l,e,K,L,M,N,_,Q⟩:=zk R I A C S Y p g G z;refine⟨l,e,K,L,M,N,fun v q f T U d=>?_⟩;obtain⟨E,_,Z,k2,W⟩:=Q v q f T U;have D:aV X E ⟨s.tmps.map (aP (kF n)),ax s.H n (h.map (renO n))⟩ a q:=fun t x J=>by
  simp only[aam]at J;obtain⟨y,V,rfl⟩:=aak.1 J;obtain⟨u,u1,u2⟩:=C t y V;grind [wG]
 exact⟨by grind [gJ],by grind [kh,jH],E,by grind [fE],pP (s:=⟨s.tmps.map (aP (kF n)),ax s.H n (h.map (renO n))⟩) (by grind) D W⟩
def X0 (c:Array Oper) (m:Nat) (r:TV) (b:Nat) (e:List OObj) (s:AS):AS:=AS.put ⟨s.tmps.map (aP (kF b)),ax s.H b (e.map (renO b))⟩ (cwD c m) (renTV b r)
end
end
def gm (x:List Int):Int:=match x.find? (fun c=>c !=0)with|none=>0|some c=>if c<0 then -1 else 1
theorem Ha (x:List Int):gm x=0\/gm x=1\/gm x= -1:=by
 grind [gm]
theorem FY (h:Ay f=true):iy f=if gm f=0 then none else some (f.map fun a=>gm f*a):=by
 unfold iy gm;rw[h];cases e:f.find? (fun c=>c !=0)with
 |none=>simp
 |some c=>
  simp only[if_true];by_cases b:c<0
  ·simp[b]
  simp[b]
def UZ (x:List Int):List Int:=x.map fun a=>gm x*a
theorem LX:gm f=0↔ ∀c∈f,c=0:=by
 grind [gm]
theorem xQ {s:Int} (b:s=1\/s= -1):gm (f.map fun a=>s*a)=s*gm f:=by
 unfold gm;rw[List.find?_map];have e:((fun c:Int=>c !=0)∘fun a=>s*a)=fun c:Int=>c !=0:=by
  grind
 grind
theorem Sp {s:Int} (b:s=1\/s= -1):UZ (f.map fun a=>s*a)=UZ f:=by
 unfold UZ;rw[xQ b,abV];grind [List.map_congr_left]
end Go.Proofs.YtalmoejhjceflaaGreat
