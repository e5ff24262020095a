/-
  Part 9 of a proof (walks and plain facts).
-/
import Derived.Test.YtalmoejhjceflaaGreatR07
set_option linter.all false
set_option maxRecDepth 100000
set_option maxHeartbeats 64000000
namespace Go.Proofs.YtalmoejhjceflaaGreat
open Go.RowKit
variable {b:Exit->Act->World->Prop} {c e:Code} {f:Act->World->Prop} {s g:AS} {h:List Nat} {j:Nat->Prop} {l:Oper} {m:Operand} {n:TV} {o:List OObj} {p:FuncId} {q:Array Oper} {r:Call} {t:Value} {u:OH} {v:Func} {w:Nat} {x:Rho}
section
section
variable {P:Program} {w0 w w':World} {O X:Nat->Prop} {ρ:Rho} {H:OH}
theorem kY {f : FuncId} (h : callable P f = true) : ∃ fn, P.funcs[f]? = some fn /\ fn.body.isNone = false /\ (fn.name == "runtime.NumGoroutine") = false := by
 unfold callable at h;split at h
 ·simp_all
 cases h
theorem jf {e:Operand->Value} (q:l.op= .call r) (j:r.callee= .value (.func p)) (m:e (.func p)= .func (.func p) #[] #[]) (n:callable P p=true):
  (execOp e l).run P w= .ok (.enter p (r.args.map e)) w:=by
 obtain⟨s,b,g,h⟩:=kY n;unfold execOp;simp only[q,resolve,j,m,Deferred.ofValue,aax,abc,aan,invoke];unfold callFunc;simp only[aax];show Result.andThen (.ok P w) _=_;rw[aan,b];simp only[h,g,aaZ,if_false]
 simp
theorem jT {e:Operand->Value} {vs:Array Value} (s:l.op= .call r) (j:r.callee= .value m) (n:e m= .func (.func p) #[] vs) (q:callable P p=true):
  (execOp e l).run P w= .ok (.enter p (r.args.map e++vs)) w:=by
 obtain⟨t,b,g,h⟩:=kY q;unfold execOp;simp only[s,resolve,j,n,Deferred.ofValue,aax,abc,aan,invoke];unfold callFunc;simp only[aax];show Result.andThen (.ok P w) _=_;rw[aan,b];simp only[h,g,aaZ,if_false]
 simp
theorem jJ {q:Option TV} {v:Value} {c:List TV} (n: ∀t,q=some t->t.rel ρ H j w v) (h:FU q=some (p,c)): ∃vs:Array Value,v= .func (.func p) #[] vs/\vs.size=c.length/\ ∀(b:Nat) t,c[b]?=some t-> ∃u:Value,vs[b]?=some u/\t.rel ρ H j w u:=by
 unfold FU at h;split at h
 ·rename_i x D;injection h with h
  injection h with h e
  subst h e;obtain⟨u,⟨vs,l,A,m⟩,B⟩:=n _ rfl;subst l;refine⟨vs,B,by grind,fun b t g=>?_⟩;rw[aam]at g;obtain⟨y,o,rfl⟩:=aak.1 g;obtain⟨u,r,z,C⟩:=m b y o;exact⟨u,r,C⟩
 ·rename_i x a F;injection h with h
  injection h with h e
  subst h e;obtain⟨vs,l,A,_,m⟩:=n _ rfl;refine⟨vs,l,by grind,fun b t g=>?_⟩;rw[aam]at g;obtain⟨y,o,rfl⟩:=aak.1 g;obtain⟨u,r,z⟩:=m b y o;exact⟨u,r,z⟩
 ·rename_i x first s
  split at h
  ·rename_i E;injection h with h
   injection h with h e
   subst h e;have:=(aX (n _ rfl)).1;grind
  cases h
 cases h
theorem sZ {f:Nat->Prop} {d:Nat} {e:AV} (h:ri e=true) (l:e.rel ρ H j w t):(cb d e).rel x u f w' t:=by
 cases e with
 |p e=>
  cases e with
  |raw c=>
   obtain⟨rfl,g⟩:=aX (ρ:=ρ) (H:=H) l;exact bM.raw _ g
  |sl o=>cases h
  |ptr n=>cases h
 |sl a r m len=>cases h
 |ptr a r i b=>cases h
 |junk=>cases h
 |fn=>cases h
theorem TF {q:Nat->Prop} {d:Nat} (h:oW n=true) (o:n.rel ρ H j w t):(renTV d n).rel x u q w' t:=by
 have agg: ∀l t,l.all ri=true->bH ρ H j w l t->bH x u q w' (l.map (cb d)) t:=fun l t s h=>by
  simp only[aat]at s;obtain⟨vs,m,p,r⟩:=h;refine⟨vs,m,by grind,fun c g y=>?_⟩;grind [sZ]
 cases n with
 |one g=>exact sZ h o
 |agg l=>exact agg l t h o
 |fn f l=>obtain⟨e,m,p⟩:=o;exact⟨e,agg l e h m,p⟩
 |tup z=>
  simp only[oW,aat]at h;obtain⟨vs,m,p,r⟩:=o;refine⟨vs,m,by grind,fun c b l y=>?_⟩;grind [sZ]
theorem lD {it:df P} {d:Nat} {a:Act} (h1:a.defers=[]) (I:a.tmps.size=s.tmps.length) (y:Inv w0 O X s.H ρ w) (J:aV X ρ s a w) (ht:renTV d it.res.r=n) (hF:it.res.fam.map (renO d)=o) (hd:o≠[]->s.H d=[]) {v:Value} {w1:World} {ρc:Rho} (q:Inv w (fun _=>False) (if it.res.plain then(fun _=>False)else Xo X ρ s.H) (famH 0 it.res.fam) ρc w1) (hr:it.res.r.rel ρc (famH 0 it.res.fam) (Xo (if it.res.plain then(fun _=>False)else Xo X ρ s.H) ρc (famH 0 it.res.fam)) w1 v):
  dx w0 O X (jj s d n o) (a.put (some d) v) w1:=by
 have l:Ext w w1:=⟨q.keep.os,q.keep.tape,q.keep.output,q.keep.size,fun k hk=>q.keep.block k hk id⟩;by_cases T:it.res.plain=true
 ·unfold CallRes.plain at T;simp only[aaO,List.isEmpty_iff]at T;have m:o=[]:=by grind
  subst m;show dx w0 O X (s.put (some d) n) _ _;refine eD h1 I (y.grow l) (J.grow l) ?_;grind [TF]
 have U:it.res.plain=false:=by grind
 simp only[U,aaZ,if_false]at q hr;generalize aa:Xo X ρ s.H=Y at q hr;have D: ∀b,Xo X ρ s.H b->Y b:=fun b E=>by rw[<- aa];exact E
 by_cases C:it.res.fam=[]
 ·rw[C]at q hr;have m:o=[]:=by grind
  subst m;show dx w0 O X (s.put (some d) n) _ _;refine eD h1 I (y.grow l) (J.grow l) ?_;rw[<- ht];refine oH hr (fun x u hx=>uN (fun r A f=>by simp at f) (fun b _ E=> .inl (D b E)) hx)
 have m:o≠[]:=by rw[<- hF];simpa using C
 have V:jj s d n o=AS.put ⟨s.tmps,ax s.H d o⟩ (some d) n:=by
  grind [jj]
 rw[V];have S: ∀r b c,ρc 0 r=some (b,c)->(∃A,it.res.fam[r]?=some A)->w.heap.size<=b:=fun r b c G ⟨A,f⟩=>by
  have:=(q.old 0 r A b c (by grind [famH]) G).1;grind
 have p: ∀r b c,(if r<it.res.fam.length then ρc 0 r else none)=some (b,c)->(∃A,it.res.fam[r]?=some A)/\ρc 0 r=some (b,c):=fun r b c h=>by
  simp_all
 have Q: ∀(r b c:Nat),(if r<it.res.fam.length then ρc 0 r else none)=some (b,c)->w.heap.size<=b:=fun r b c h=>S r b c (p r b c h).2 (p r b c h).1
 have N: ∀x u,AV.rel ρc (famH 0 it.res.fam) (Xo Y ρc (famH 0 it.res.fam)) w1 x u->AV.rel (newρ ρ d fun r=>if r<it.res.fam.length then ρc 0 r else none) (ax s.H d o) (Xo X (newρ ρ d fun r=>if r<it.res.fam.length then ρc 0 r else none) (ax s.H d o)) w1 (cb d x) u:=fun x u hx=>by
  refine uN (fun r A f=>?_) (fun b _ E=>?_) hx
  ·grind [aM,newρ_eq]
  rcases E with E|⟨x',y',A,c,W,L⟩
  ·exact .inl (D b (.inl E))
  by_cases K:x'=d
  ·subst K;rw[newρ_eq]at L;obtain⟨⟨M,B⟩,g3⟩:=p y' b c L;exact .inr ⟨0,y',M,c,by grind [famH],g3⟩
  rw[aG K]at W;rw[newρ_ne K]at L;exact .inl (D b (.inr ⟨x',y',A,c,W,L⟩))
 refine Bu h1 I y J l (hd m) (fun r=>if r<it.res.fam.length then ρc 0 r else none) Q (fun r r' b c n' g g'=>?_) (fun r A f=>?_) (fun r A f=>?_) ?_
 ·obtain⟨⟨o1,ad⟩,W⟩:=p r b c g;obtain⟨⟨M,B⟩,L⟩:=p r' b n' g';exact(q.inj 0 r 0 r' o1 M b c n' (by grind [famH]) (by grind [famH]) W L).2
 ·rw[<- hF,aam]at f;obtain⟨M,B,rfl⟩:=aak.1 f;intro e Z x hx;grind [renO,dB]
 ·rw[<- hF,aam]at f;obtain⟨M,B,rfl⟩:=aak.1 f;have R:=q.objs 0 r M (by grind [famH]);obtain⟨z1,z2,z3⟩:=R;refine⟨fun e Z=>?_,z2,?_⟩
  ·grind [renO]
  rw[newρ_eq,if_pos (aao.1 B).1];cases G:ρc 0 r with
  |none=>grind [renO]
  |some bc=>
   obtain⟨b,c⟩:=bc;rw[G]at z3;obtain⟨cells,p1,p2,p3,p4,p5⟩:=z3;refine⟨cells,p1,p2,by grind [renO],p4,fun i e j z Z hz=>?_⟩;simp only[renO,aam]at Z;obtain⟨e',ab,rfl⟩:=aak.1 Z;rw[aam]at hz;obtain⟨z',ac,rfl⟩:=aak.1 hz;obtain⟨u,u1,u2,u3⟩:=p5 i e' j z' ab ac;exact⟨u,u1,u2,N z' u u3⟩
 grind [oH]
def Fk (P:Program) (f:FuncId) (args:List TV) (res:CallRes) (w:World):Prop:=
 callable P f=true/\ ∀(X:Nat->Prop) (vs:Array Value),(∀b,X b->b<w.heap.size)->vs.size=args.length->
  (∀(j:Nat) t,args[j]?=some t-> ∃v:Value,vs[j]?=some v/\t.rel (fun _ _=>none) (fun _=>[]) X w v)->
  Calls P f vs w fun e w'=> ∃v,e= .returned v/\ ∃ρ:Rho,
   Inv w (fun _=>False) X (famH 0 res.fam) ρ w'/\res.r.rel ρ (famH 0 res.fam) (Xo X ρ (famH 0 res.fam)) w' v
def oc (P:Program) (b:List (df P)) (w:World):Prop:= ∀c∈b,Fk P c.f c.args c.res w
theorem gV.at {b:List (df P)} (h:gV P b) (w:World):oc P b w:=fun e c=>⟨(h e c).1,fun X vs=>(h e c).2 X w vs⟩
theorem Sf {B:List (df P)} {i d:Nat} {a:Act} (hI:oc P B w) (h1:a.defers=[]) (ab:a.tmps.size=s.tmps.length) (A:Inv w0 O X s.H ρ w) (M:aV X ρ s a w) (W:l.op= .call r) (D:r.callee= .value (.func p)) (m:cn P B h i d s.ev s.H l.op=some (n,o)) (hd:o≠[]->s.H d=[]) (V:l.dst=some d) (hK: ∀v w',dx w0 O X (jj s d n o) (a.put l.dst v) w'->f (a.put l.dst v) w'):l.wp P a w f b:=by
 rw[W]at m;simp only[cn,D]at m;split at m
 ·rename_i S ts L N;split at m
  ·rename_i hc;obtain⟨Z,c2,T,_⟩:=hc;injection m with m
   injection m with ht hF
   subst Z;obtain⟨e1,e2⟩:=bV N;obtain⟨z,G⟩:=hI S (adq L);have I:=jf (w:=w) W D (e:=a.eval) rfl z;unfold Oper.wp;rw[I];simp only[Oper.upon];simp only[aat]at T;have U: ∀g,(if S.res.plain then(fun _=>False)else Xo X ρ s.H:Nat->Prop) g->Xo X ρ s.H g:=fun g C=>by
    split at C
    ·grind
    exact C
   have E: ∀g,Xo X ρ s.H g->g<w.heap.size:=fun g C=>by
    rcases C with C|⟨x,y,o',q,g1,g2⟩
    ·exact A.bar g C
    exact bJ (A.objs x y o' g1) g2
   refine(G (if S.res.plain then(fun _=>False)else Xo X ρ s.H) (r.args.map a.eval) (fun g C=>E g (U g C)) ?_ ?_).mono ?_
   ·grind
   ·intro j u Y;rw[<- c2,aam]at Y;obtain⟨t0,J,rfl⟩:=aak.1 Y;obtain⟨x,hx,R⟩:=e2 j t0 J;refine⟨a.eval x,by grind,?_⟩;exact qT A.objs U (fun aa g C=>by simp_all) (bz M x t0 R) (T t0 (aai J))
   grind [lD]
  cases m
 cases m
theorem ND {C:List (df P)} {i d:Nat} {a:Act} (hI:oc P C w) (h1:a.defers=[]) (ab:a.tmps.size=s.tmps.length) (B:Inv w0 O X s.H ρ w) (M:aV X ρ s a w) {k:Tmp} (ho:l.op= .call r) (E:r.callee= .value (.tmp k)) (p:cn P C h i d s.ev s.H l.op=some (n,o)) (hd:o≠[]->s.H d=[]) (aa:l.dst=some d) (hK: ∀v w',dx w0 O X (jj s d n o) (a.put l.dst v) w'->f (a.put l.dst v) w'):l.wp P a w f b:=by
 rw[ho]at p;simp only[cn,E]at p;split at p
 ·rename_i m N Y ts S U V;split at p
  ·rename_i hc;obtain⟨c1,c2,Z,_⟩:=hc;injection p with p
   injection p with ht hF
   subst c1;obtain⟨e1,e2⟩:=bV V;obtain⟨us,k1,k2,k3⟩:=jJ (v:=a.eval (.tmp k)) (fun t0 A=>bz M (.tmp k) t0 A) S;obtain⟨z,J⟩:=hI Y (adq U);have L:=jT (w:=w) ho E (e:=a.eval) k1 z;unfold Oper.wp;rw[L];simp only[Oper.upon];simp only[aat]at Z;have R: ∀g,(if Y.res.plain then(fun _=>False)else Xo X ρ s.H:Nat->Prop) g->Xo X ρ s.H g:=fun g D=>by
    split at D
    ·grind
    exact D
   have I: ∀g,Xo X ρ s.H g->g<w.heap.size:=fun g D=>by
    rcases D with D|⟨x,y,o',q,g1,g2⟩
    ·exact B.bar g D
    exact bJ (B.objs x y o' g1) g2
   refine(J (if Y.res.plain then(fun _=>False)else Xo X ρ s.H) (r.args.map a.eval++us) (fun g D=>I g (R g D)) ?_ ?_).mono ?_
   ·grind
   ·intro j u hu;rw[<- c2,aam]at hu;obtain⟨t0,A,rfl⟩:=aak.1 hu;have G:=Z t0 (aai A);by_cases hj:j<ts.length
    ·rw[aaB hj]at A;obtain⟨x,hx,W⟩:=e2 j t0 A;refine⟨a.eval x,by grind,?_⟩;exact qT B.objs R (fun T g D=>by simp_all) (bz M x t0 W) G
    rw[aaE (by omega)]at A;obtain⟨v,v1,v2⟩:=k3 _ t0 A;refine⟨v,by grind,?_⟩;exact qT B.objs R (fun T g D=>by simp_all) v2 G
   grind [lD]
  cases p
 cases p
theorem Kt {G:List (df P)} {i d:Nat} {a:Act} (h1:a.defers=[]) (aa:a.tmps.size=s.tmps.length) (y:Inv w0 O X s.H ρ w) (E:aV X ρ s a w) (ho:l.op= .call r) (p:r.callee= .builtin .append) (g:cn P G h i d s.ev s.H l.op=some (n,o)) (hd:o≠[]->s.H d=[]) (L:l.dst=some d) (hK: ∀v w',dx w0 O X (jj s d n o) (a.put l.dst v) w'->f (a.put l.dst v) w'):l.wp P a w f b:=by
 rw[ho]at g;simp only[cn,p]at g;obtain⟨callee,⟨args⟩,⟨argTypes⟩⟩:=r;simp only at p;subst p;split at g
 ·rename_i sx x ty a0 m S;simp only at m S;subst m S;split at g
  ·rename_i T e hs hx Z;split at g
   ·rename_i z sz U hz N V;split at g
    ·rename_i hc;obtain⟨rfl,c7,c8,c9,u,I⟩:=hc;injection g with g
     injection g with ht hF
     subst ht hF;obtain⟨tx,ab,C⟩:=aaG.1 hx;obtain⟨us,B⟩:=wR y.objs C (bz E x tx ab) I u;have al:=(aX (bz E sx _ hs)).1;obtain⟨⟨A,cc,hv,Y⟩,ac,M,ah,W⟩:=id B;obtain⟨ti,zv,R,av,ap⟩:=ko hz;obtain⟨ad,j,ag⟩:=rM N;rw[R]at j;injection j with j;subst j
     obtain⟨ad,j,ae⟩:=vR V;rw[R]at j;injection j with j;subst j
     obtain⟨v',w1,af,q,hg,J⟩:=ld (P:=P) w 0 ty l.type e zv sz U (dI Z) (by grind) (by grind) u (.slice none 0 0) 0 [] (acH _ _ _ _) A T.length cc us Y ac M (by grind [maxLen]) (by grind) (aaW _);have D:(execOp a.eval l).run P w= .ok (.value v') w1:=by
      unfold execOp;grind [resolve,invoke,builtin,Sem.run_bind,Sem.run_pure,Result.andThen_ok]
     unfold Oper.wp;rw[D];rw[aa6,ab1]at q;refine hK v' w1 ?_;rw[L];exact FL h1 aa y E (hd (by simp)) u I B q hg J
    cases g
   cases g
  cases g
 cases g
theorem SK {m:List (df P)} {i d:Nat} {a:Act} (C:oc P m w) (B:a.defers=[]) (z:a.tmps.size=s.tmps.length) (q:Inv w0 O X s.H ρ w) (A:aV X ρ s a w) {j:Oper} {t:TV} (g:cn P m h i d s.ev s.H j.op=some (t,o)) (D:o≠[]->s.H d=[]) (p:j.dst=some d) (u: ∀v w',dx w0 O X (jj s d t o) (a.put j.dst v) w'->f (a.put j.dst v) w'):j.wp P a w f b:=by
 have r:(∃v w',(execOp a.eval j).run P w= .ok (.value v) w'/\dx w0 O X (jj s d t o) (a.put (some d) v) w')->j.wp P a w f b:=fun⟨v,w1,g1,g2⟩=>by
  unfold Oper.wp;rw[g1];exact u v w1 (by grind)
 have ne: ∀{e:OObj} {l:List OObj},e::l≠[]:=fun{e l}=>by simp
 cases y:j.op
 case box e x=>
  grind [NV,cn]
 case alloc e=>
  grind [F9,cn]
 case makeSlice ty l c=>
  grind [KP,cn]
 case buildSlice ty n parts=>grind [NX]
 case call c=>
  grind [Sf,ND,cn,Kt]
 all_goals (rw[y]at g;simp only[cn]at g;cases g)
theorem CZ {m:List (df P)} {i:Nat} {a:Act} (z:oc P m w) (n:dx w0 O X s a w) (c:d6 P m h i l s=some g) (y: ∀v w',dx w0 O X g (a.put l.dst v) w'->f (a.put l.dst v) w'):l.wp P a w f b:=by
 obtain⟨x,p,ρ,j,e⟩:=n;have e:aV X ρ s a w:=e;unfold d6 at c;split at c
 ·obtain⟨t,u,rfl⟩:=aak.1 c;obtain⟨v,q,r⟩:=wh (bz e) u;unfold Oper.wp;rw[q];exact y v w (eD x p j e r)
 split at c
 ·obtain⟨t,u,rfl⟩:=aak.1 c;obtain⟨v,q,r⟩:=wn (bz e) j.objs u;unfold Oper.wp;rw[q];exact y v w (eD x p j e r)
 grind [Gd,SK,jj]
theorem C2 {m:List (df P)} {i:Nat} {a:Act} (I:oc P m w) (r:dx w0 O X s a w) (j:aU P m h q i l s=some g) (z: ∀v w',dx w0 O X g (a.put l.dst v) w'->f (a.put l.dst v) w'):
  if Region.wanted l (yielded q a.tmps)then l.wp P a w f b else f (a.put l.dst undef) w:=by
 unfold aU at j;split at j
 ·grind [Region.wanted,CZ]
 rename_i e B L;split at j
 ·cases j
 rename_i d J;have x:=r;obtain⟨y,t,ρ,p,n⟩:=r;split at j
 ·rename_i c u;obtain⟨v,E,A⟩:=n d _ u;have F:=(aX A).1;have G:yielded q a.tmps e=some c:=by
   grind [yielded]
  split at j
  ·grind [Region.wanted,CZ]
  rename_i C;rw[if_neg (by grind [Region.wanted])];injection j with j
  subst j;exact z undef w (eD y t p n eJ)
 ·rename_i u;obtain⟨v,E,vs,A,D,_⟩:=n d _ u;have G:yielded q a.tmps e=none:=by
   grind [yielded]
  rw[if_neg (by grind [Region.wanted])];injection j with j
  subst j;exact z undef w (eD y t p n eJ)
 cases j
theorem iv {c:List (df P)} {i:Nat} {a:Act} (f:gV P c) (e:dx w0 O X s a w) (b:aU P c h q i l s=some g) {K:Act->World->Prop} {Q:Exit->Act->World->Prop} (j: ∀v w',dx w0 O X g (a.put l.dst v) w'->K (a.put l.dst v) w'):
  if Region.wanted l (yielded q a.tmps)then l.wp P a w K Q else K (a.put l.dst undef) w:=C2 (f.at w) e b j
end
end
section
def bf (P:Program) (c:Code) (Q:Exit->AS->Prop) (s:AS):Prop:=
 ∀(f:World) (O X:Nat->Prop) (a:Act) (w:World),dx f O X s a w->c.wp P (fun e g h=> ∃b,Q e b/\dx f O X b g h) a w
def bG (s c:AS):Prop:= ∀(b:World) (O X:Nat->Prop) (a:Act) (w:World),dx b O X s a w->dx b O X c a w
def jh (next:AS->Prop) (Q:Exit->AS->Prop):Exit->AS->Prop
 | .normal,s=>next s
 |e,s=>Q e s
def mi (id:Nat) (Q:Exit->AS->Prop):Exit->AS->Prop
 | .exit b,s=>if b=id then Q .normal s else Q (.exit b) s
 |e,s=>Q e s
section
variable {P:Program} {s s':AS} {Q:Exit->AS->Prop}
theorem bG.refl (s:AS):bG s s:=fun _ _ _ _ _ h=>h
theorem bG.trans {b:AS} (h:bG s g) (k:bG g b):bG s b:=fun _ _ _ _ _ r=>k _ _ _ _ _ (h _ _ _ _ _ r)
theorem bf.weak (h:bG s s') (k:bf P c Q s'):bf P c Q s:=fun _ _ _ _ _ r=>k _ _ _ _ _ (h _ _ _ _ _ r)
theorem bf.mono {b:Exit->AS->Prop} (h:bf P c Q s) (k: ∀e s',Q e s'->b e s'):bf P c b s:=fun _ _ _ _ _ r=>
 wp_mono (h _ _ _ _ _ r) fun _ _ _ ⟨s',f,g⟩=>⟨s',k _ _ f,g⟩
theorem ak (h:Q .normal s):bf P .skip Q s:=fun _ _ _ _ _ r=>wp_skip ⟨s,h,r⟩
theorem aZ {id:Nat} (h:Q (.exit id) s):bf P (.exit id) Q s:=fun _ _ _ _ _ r=>wp_exit ⟨s,h,r⟩
theorem aW (h:Q .ret s):bf P .ret Q s:=fun _ _ _ _ _ r=>wp_ret ⟨s,h,r⟩
theorem ai (h:bf P c (jh (bf P e Q) Q) s):bf P (.seq c e) Q s:=fun _ _ _ _ _ r=>
 wp_seq (wp_mono (h _ _ _ _ _ r) fun b a w ⟨s',f,g⟩=>by
  cases b with
  |normal=>exact f _ _ _ _ _ g
  |_=>exact⟨s',f,g⟩)
theorem am {id:Nat} (h:bf P c (mi id Q) s):bf P (.block id c) Q s:=fun _ _ _ _ _ r=>
 wp_block (wp_mono (h _ _ _ _ _ r) fun e a w ⟨s',b,f⟩=>by
  cases e with
  |exit g=>
   grind [mi,Exit.inBlock]
  |_=>exact⟨s',b,f⟩)
theorem bi {b:Bool} (l:s.ev m=some (.raw (.bool b))) (p:b=true->bf P c Q s) (n:b=false->bf P e Q s):bf P (.cond m c e) Q s:=fun _ _ _ _ _ r=>by
 obtain⟨q,o,t,g,f⟩:=id r;have j:=(aX (bz f m _ l)).1;exact wp_cond_split j (fun h=>p h _ _ _ _ _ r) (fun h=>n h _ _ _ _ _ r)
theorem ay (b:s.ev m=some (.raw (.bool true))) (h:bf P c Q s):bf P (.cond m c e) Q s:=bi b (fun _=>h) (fun h=>by cases h)
theorem aq (b:s.ev m=some (.raw (.bool false))) (h:bf P e Q s):bf P (.cond m c e) Q s:=bi b (fun h=>by cases h) (fun _=>h)
theorem be (b:s.ev m=some (.raw (.bool true))) (h:bf P e Q s):bf P (.seq (.cond m .skip c) e) Q s:=ai (ay b (ak h))
theorem bv {id:Nat} (b:s.ev m=some (.raw (.bool false))) (h:Q (.exit id) s):bf P (.seq (.cond m c (.exit id)) e) Q s:=ai (aq b (aZ h))
theorem bE (h: ∃n,j n): ∃n,j n/\ ∀m,j m->n<=m:=by
 obtain⟨n,b⟩:=h
 induction n using Nat.strongRecOn with
 |_ n c=>
  grind
theorem CK {G:Type} (St:G->AS) (o:G->Nat) (v:G) (B:bG s (St v)) (round: ∀g,bf P c (jh (fun s'=> ∃f,o f<o g/\bG s' (St f)) Q) (St g)):bf P (.loop c) Q s:=fun I O X a w r=>by
 classical
 let p:Act->World->Nat->Prop:=fun a w n=> ∃g,o g=n/\dx I O X (St g) a w
 let m:Act->World->Nat:=fun a w=>if h: ∃n,p a w n then Classical.choose (bE h)else 0
 refine wp_loop (fun a w=> ∃n,p a w n) m ⟨_,v,rfl,B _ _ _ _ _ r⟩ ?_;intro a w q;have D:m a w=Classical.choose (bE q):=dif_pos q;obtain⟨z,l⟩:=abw (bE q);rw[<- D]at z;obtain⟨g,J,F⟩:=z;refine wp_mono (round g _ _ _ _ _ F) fun e u A ⟨s',x,y⟩=>?_
 cases e with
 |normal=>
  obtain⟨f,C,H⟩:=x;have j:=H _ _ _ _ _ y;have b: ∃n,p u A n:=⟨_,f,rfl,j⟩;refine⟨b,?_⟩;have E:m u A=Classical.choose (bE b):=dif_pos b;obtain⟨_,t⟩:=abw (bE b);have:=t (o f) ⟨f,rfl,j⟩;omega
 |_=>exact⟨s',x,y⟩
theorem km {b:List (df P)} (n:gV P b) {x:List Nat} {c:Array Oper} {q:World} {O X:Nat->Prop} {Q:Exit->Act->World->Prop}: ∀(l:List Oper) (k:Nat) (s s':AS) (a:Act) (w:World),(∀(j:Nat) o,l[j]?=some o->c[k+j]?=some o)->
  ib P b x c (l.zipIdx k) s=some s'->dx q O X s a w->(∀m g,dx q O X s' m g->Q .normal m g)->wpOps P c Q (List.range' k l.length) a w
 |[],k,s,s',a,w,_,h,r,e=>by
  simp only[acV,ib]at h;injection h with h
  subst h;exact e a w r
 |o::l,k,s,s',a,w,p,h,r,e=>by
  simp only[acb,ib]at h;split at h
  ·rename_i y f;simp only[aaP,abb,wpOps];have t:c[k]?=some o:=by have:=p 0 o rfl;omega
   rw[t];simp only;have:=iv (Q:=Q) n r f (K:=wpOps P c Q (List.range' (k+1) l.length)) (fun v g u=>km n l (k+1) y s' _ _ (fun j o z=>by have:=p (j+1) o (by grind);grind) h u e);grind
  cases h
theorem Fx (b:List (df P)) (g:gV P b) (n:List Nat) {id:Nat} (h:ib P b n q q.toList.zipIdx s=some s') (l:Q .normal s'):bf P (.region id q false) Q s:=fun p O X a w r=>by
 refine wp_region ?_;rw[aaX];have:=km g (Q:=fun e c f=> ∃s',Q e s'/\dx p O X s' c f) q.toList 0 s s' a w (fun j o t=>by grind) h r (fun c f m=>⟨s',l,m⟩);omega
end
/-! ### The end of a function -/
def s7 (P:Program) (s:AS):ResultVar->Option TV
 | .tmp t=>s.tmps[t]?
 | .cell a t=>match s.tmps[a]? with
  |some (.one (.ptr b r i j))=>match(s.H b)[r]? with
   |some o=>match o.elems[i]? with
    |some e=>kO P t (e.drop j)
    |none=>none
   |none=>none
  |_=>none
def Cf:TV->Option (Bool×List AV)
 | .one x=>some (false,[x])
 | .agg b=>some (true,b)
 | .tup _=>none
 | .fn _ _=>none
def xw (P:Program) (s:AS):List ResultVar->Option (List (Bool×List AV))
 |[]=>some []
 |r::l=>match(s7 P s r).bind Cf,xw P s l with
  |some t,some b=>some (t::b)
  |_,_=>none
def pS (P:Program) (s:AS):List ResultVar->Option TV
 |[r]=>s7 P s r
 |rs=>(xw P s rs).map TV.tup
section
variable {P:Program} {w0 w:World} {O X:Nat->Prop} {ρ:Rho} {s:AS}
def wZ (tmps:Array Value):ResultVar->Sem Value
 | .tmp t=>pure (tmps.getD t undef)
 | .cell b t=>do loadVar t (<- asAddr (tmps.getD b undef))
theorem G5 (b:Func) (tmps:Array Value):results b tmps=(do let vs<- b.results.mapM (wZ tmps);pure (if h:vs.size=1 then vs[0]else .tuple vs)):=by
 rfl
theorem rm {a:Act} (f:Inv w0 O X s.H ρ w) (g:aV X ρ s a w) {l:ResultVar} (h:s7 P s l=some n):
  ∃v,(wZ a.tmps l).run P w= .ok v w/\n.rel ρ s.H (Xo X ρ s.H) w v:=by
 cases l with
 |tmp k=>
  simp only[s7]at h;obtain⟨v,y,D⟩:=g k n h;simp_all[wZ]
 |cell p E=>
  simp only[s7]at h;split at h
  ·rename_i q r i j A;obtain⟨v,y,o,b,c,m,x,B,C⟩:=g p _ A;rw[m]at h;simp only at h;split at h
   ·rename_i e z;obtain⟨u,F,G⟩:=pF h (mm (zM (f.objs q r o m) x z) j);simp_all[wZ,asAddr]
   cases h
  cases h
theorem xx {a:Act} (c:Inv w0 O X s.H ρ w) (n:aV X ρ s a w): ∀{q:List ResultVar} {m:List (Bool×List AV)},xw P s q=some m->
  ∃vs:List Value,(q.mapM (wZ a.tmps)).run P w= .ok vs w/\vs.length=m.length/\
   ∀(j:Nat) b e,m[j]?=some (b,e)-> ∃u:Value,vs[j]?=some u/\((b=true/\bH ρ s.H (Xo X ρ s.H) w e u)\/(b=false/\ ∃x,e=[x]/\x.rel ρ s.H (Xo X ρ s.H) w u))
 |[],m,h=>by
  simp only[xw]at h;simp_all
 |r::l,m,h=>by
  simp only[xw]at h;split at h
  ·rename_i t C A B;injection h with h
   subst h;obtain⟨D,o,g⟩:=aaG.1 A;obtain⟨v,G,y⟩:=rm c n o;obtain⟨vs,E,z,F⟩:=xx c n B;refine⟨v::vs,?_,by simp[z],fun j b e p=>?_⟩
   ·simp_all
   cases j with
   |succ j=>grind
   |zero=>
    simp at p;subst p;refine⟨v,rfl,?_⟩;cases D with
    |one x=>simp[Cf]at g;obtain⟨rfl,rfl⟩:=g;exact .inr ⟨rfl,x,rfl,y⟩
    |agg e=>simp[Cf]at g;obtain⟨rfl,rfl⟩:=g;exact .inl ⟨rfl,y⟩
    |tup m=>cases g
    |fn f e=>cases g
  cases h
theorem fF {a:Act} (e:Inv w0 O X s.H ρ w) (g:aV X ρ s a w) (h:pS P s v.results.toList=some n): ∃c,(results v a.tmps).run P w= .ok c w/\n.rel ρ s.H (Xo X ρ s.H) w c:=by
 rw[G5,Array.mapM_eq_mapM_toList];generalize u:v.results.toList=f at h;unfold pS at h;split at h
 ·rename_i r;obtain⟨c,D,E⟩:=rm e g h;simp_all
 rename_i q;cases o:xw P s f with
 |none=>grind
 |some m=>
  rw[o]at h;simp at h;subst h;obtain⟨vs,y,z,A⟩:=xx e g o;refine⟨.tuple vs.toArray,?_,vs.toArray,rfl,by omega,fun j b x B=>by grind⟩;have p: ∀{f:List ResultVar} {m:List (Bool×List AV)},xw P s f=some m->m.length=f.length:=by
   intro f
   induction f with
   |nil=>grind [xw]
   |cons r l C=>
    grind [xw]
  grind [List.length_eq_one_iff,map_eq_pure_bind,Sem.run_bind,Result.andThen_ok,Sem.run_pure]
def selfTV (a:Nat):TV->Prop
 | .one x=>bs a x
 | .agg b=> ∀x∈b,bs a x
 | .fn _ b=> ∀x∈b,bs a x
 | .tup c=> ∀t∈c,∀x∈t.2,bs a x
def tW (H:OH) (b:Nat) (r:TV):Prop:=match Nat.ble b 4999 with
 |true=>selfTV b r
 |false=>selfTV b r/\H b=[]
theorem xP {b:Nat} (h:tW u b n):selfTV b n/\(b<=4999\/u b=[]):=by
 unfold tW at h;split at h
 ·simp_all
 grind
theorem LV {b:Nat} (h:selfTV b n) (c:u b=[]):tW u b n:=by
 grind [tW]
theorem xO {b:Nat} (h:selfTV b n) (c:b<=4999):tW u b n:=by
 grind [tW,Nat.ble_eq_true_of_le]
def mZ (P:Program) (c:Func) (res:CallRes) (s:AS):Prop:=
 ∃r b,pS P s c.results.toList=some r/\tW s.H b r/\res.fam=(s.H b).map (renO 0)/\res.r=renTV 0 r
theorem FV (G:World->Prop) {f:FuncId} {fn:Func} {args:List TV} {res:CallRes} (hf:P.funcs[f]?=some fn) (S:fn.body=some c) (hn:callable P f=true) (h: ∀(w0:World) (X:Nat->Prop) (a:Act),G w0->dx w0 (fun _=>False) X ⟨args++List.replicate (fn.ntmps-args.length) .undef,fun _=>[]⟩ a w0->c.wp P (fun e a' J=> ∃s1,((e= .normal\/e= .ret)/\ ∃s',bG s1 s'/\mZ P fn res s')/\dx w0 (fun _=>False) X s1 a' J) a w0) (w:World) (hG:G w):Fk P f args res w:=by
 refine⟨hn,fun X vs hX ap R=>?_⟩;refine calls_of_wp hf S ?_;have ae:dx w (fun _=>False) X ⟨args++List.replicate (fn.ntmps-args.length) .undef,fun _=>[]⟩ {tmps:=vs++Array.replicate (fn.ntmps-vs.size) undef,defers:=[]} w:=by
  refine⟨rfl,by simp[ap],fun _ _=>none,⟨Keep.refl w,fun a r o l=>by simp at l,fun a r a' r' o D b c c' l=>by simp at l,fun a r o b c l=>by simp at l,hX,fun a r o l=>by simp at l⟩,fun t x A=>?_⟩;have Q: ∀b,b<w.heap.size->Xo X (fun _ _=>none) (fun _=>[]) b->X b:=fun b _ h=>by
   rcases h with h|⟨a,r,o,c,B,h2⟩
   ·exact h
   cases h2
  by_cases ht:t<args.length
  ·rw[aaB ht]at A;obtain⟨v,v1,v2⟩:=R t x A;refine⟨v,by grind,TV.rel_map v2 (fun y u hy=>?_)⟩;cases y with
   |p y=>exact bM.weaken Q hy
   |sl a r av len=>obtain⟨o,B,_⟩:=hy;simp at B
   |ptr a r i j=>obtain⟨o,_,_,B,_⟩:=hy;simp at B
   |fn f a qs=>grind [qA]
   |junk=>trivial
  rw[aaE (by omega),aba]at A;split at A
  ·rename_i a2;injection A with A
   subst A;refine⟨undef,?_,eJ⟩;grind
  cases A
 refine wp_mono (h _ _ _ hG ae) fun e a' J ⟨s1,⟨he,W,hw,r,m,af,F,a1,hr⟩,U⟩=>?_
 obtain⟨q,h5⟩:=xP F;obtain⟨B,a3,ρ,g,V⟩:=hw _ _ _ _ _ U;have V:aV X ρ W a' J:=V;obtain⟨v,v1,v2⟩:=fF g V af;have Z: ∀(k:Nat) o,(famH 0 res.fam 0)[k]?=some o-> ∃D,(W.H m)[k]?=some D/\o=renO 0 D:=fun k o l=>by
  grind [famH]
 have I: ∀(x k:Nat) o,(famH 0 res.fam x)[k]?=some o->x=0:=fun x k o l=>by
  grind [famH]
 have Q: ∀b,Xo X (fun _ k=>ρ m k) (famH 0 res.fam) b->Xo X ρ W.H b:=fun b S=>by
  rcases S with S|⟨x,k,o,n,C,Y⟩
  ·exact .inl S
  have:=I x k o C;subst this;obtain⟨D,g3,_⟩:=Z k o C;exact .inr ⟨m,k,D,n,g3,Y⟩
 have M: ∀x u,bs m x->AV.rel ρ W.H (Xo X ρ W.H) J x u->AV.rel (fun _ k=>ρ m k) (famH 0 res.fam) (Xo X (fun _ k=>ρ m k) (famH 0 res.fam)) J (cb 0 x) u:=j3 (c:=bs m) (fun _ _ _ _ _ _ h=>h.1) (oC 0) fun x u hn N A=>by
  cases x with
  |fn=>cases hn
  |p x=>exact bM.weaken (fun b _ S=>Q b S) A
  |sl x k av len=>
   have N:x=m:=N;subst N;obtain⟨o,C,Y,g3⟩:=A;have h6:x<=4999:=h5.resolve_right fun h=>by grind
   exact⟨renO 0 o,by grind [famH],by grind [renO],tf (ρ':=fun _ k=>ρ x k) (a':=0) (r':=k) h6 g3 rfl⟩
  |ptr x k i j=>
   have N:x=m:=N;subst N;obtain⟨o,b,c,C,Y,g3,g4⟩:=A;exact⟨renO 0 o,b,c,by grind [famH],Y,by grind [renO],g4⟩
  |junk=>trivial
 have L: ∃K:Rho,Inv w (fun _=>False) X (famH 0 res.fam) K J/\res.r.rel K (famH 0 res.fam) (Xo X K (famH 0 res.fam)) J v:=by
  refine⟨fun _ k=>ρ m k,⟨g.keep,fun x k o l=>?_,fun x k x' k' o D b c c' l ac T al=>?_,fun x k o b c l T=>?_,g.bar,fun x k o l=>?_⟩,?_⟩
  ·have:=I x k o l;subst this;obtain⟨D,C,rfl⟩:=Z k o l;obtain⟨z1,z2,z3⟩:=g.objs m k D C;refine⟨fun e he=>?_,z2,?_⟩
   ·grind [renO]
   cases ad:ρ m k with
   |none=>grind [renO]
   |some bc=>
    obtain⟨b,n⟩:=bc;rw[ad]at z3;obtain⟨cells,p1,p2,p3,p4,p5⟩:=z3;simp only[ad];refine⟨cells,p1,p2,by grind [renO],p4,fun i e j z he I=>?_⟩;simp only[renO,aam]at he;obtain⟨e',ab,rfl⟩:=aak.1 he;rw[aam]at I;obtain⟨z',ah,rfl⟩:=aak.1 I;obtain⟨u,u1,u2,u3⟩:=p5 i e' j z' ab ah;exact⟨u,u1,u2,M z' u (g.self m k D C e' (aai ab) z' (aai ah)) u3⟩
  ·have e1:=I x k o l;have e2:=I x' k' D ac;subst e1 e2;obtain⟨o1,C,_⟩:=Z k o l;obtain⟨o2,Y,_⟩:=Z k' D ac;exact⟨rfl,(g.inj m k m k' o1 o2 b c c' C Y T al).2⟩
  ·have e1:=I x k o l;subst e1;obtain⟨o1,C,_⟩:=Z k o l;exact g.old m k o1 b c C T
  ·have e1:=I x k o l;subst e1;obtain⟨o1,C,rfl⟩:=Z k o l;intro e he z a4;grind [renO,dB]
  rw[hr];have agg: ∀E u,(∀x∈E,bs m x)->bH ρ W.H (Xo X ρ W.H) J E u->bH (fun _ k=>ρ m k) (famH 0 res.fam) (Xo X (fun _ k=>ρ m k) (famH 0 res.fam)) J (E.map (cb 0)) u:=fun E u N h=>by
   obtain⟨us,B,h2,h3⟩:=h;refine⟨us,B,by grind,fun j x A=>?_⟩;grind
  cases r with
  |one x=>exact M x v q v2
  |agg E=>exact agg E v q v2
  |fn f E=>obtain⟨u,B,h2⟩:=v2;exact⟨u,agg E u q B,h2⟩
  |tup ts=>
   obtain⟨us,B,h2,h3⟩:=v2;refine⟨us,B,by grind,fun j b E A=>?_⟩;rw[aam]at A;obtain⟨y,hy,ag⟩:=aak.1 A;obtain⟨b',aa⟩:=y;simp at ag;obtain⟨rfl,rfl⟩:=ag;obtain⟨u,u1,u2⟩:=h3 j b' aa hy;have N:=q (b',aa) (aai hy);grind
 rcases he with rfl|rfl
 ·exact⟨B,v,v1,v,rfl,L⟩
 exact⟨B,v,v1,v,rfl,L⟩
theorem dr {args:List TV} {res:CallRes} (l:P.funcs[p]?=some v) (j:v.body=some c) (b:callable P p=true) (h:bf P c (fun e s=>(e= .normal\/e= .ret)/\ ∃g,bG s g/\mZ P v res g) ⟨args++List.replicate (v.ntmps-args.length) .undef,fun _=>[]⟩):CallC P p args res:=
 ⟨b,fun X w vs=>(FV (fun _=>True) l j b (fun w0 X a _ r=>h w0 _ X a w0 r) w trivial).2 X vs⟩
end
end
end Go.Proofs.YtalmoejhjceflaaGreat
