/-
  Part 5 of a proof (walks and plain facts).
-/
import Derived.Test.YtalmoejhjceflaaGreatP03
set_option linter.all false
set_option maxRecDepth 100000
set_option maxHeartbeats 64000000
namespace Go.Proofs.YtalmoejhjceflaaGreat
open Go.RowKit
variable {b c:Nat->Prop} {e:Exit->Act->World->Prop} {f:Act->World->Prop} {g h:Code} {j:Value} {s l:AS} {m:List Value} {n:Nat} {o:Operand} {p:Oper} {q:List Nat} {r:TV} {t:List OObj} {u:FuncId} {v:Rho} {w:OH} {x:List (List AV)} {y:Array Oper} {z:Call} {A:OObj} {B:AV} {C:Func}
section
section
variable {P:Program} {w0 w w':World} {O X:Nat->Prop} {ρ:Rho} {H:OH}
theorem Pp {l:List Value} {elems:List (List AV)} {R:AV->Value->Prop} (s:m.length=elems.length*n) (q: ∀e∈elems,e.length=n) (o: ∀(i:Nat) e (j:Nat) b,elems[i]?=some e->e[j]?=some b-> ∃u:Value,m[i*n+j]?=some u/\u.oneCell'=true/\R b u) (p: ∀(i:Nat) e (j:Nat) b,x[i]?=some e->e[j]?=some b-> ∃u:Value,l[i*n+j]?=some u/\u.oneCell'=true/\R b u):
  ∀(i:Nat) e (j:Nat) b,(elems++x)[i]?=some e->e[j]?=some b-> ∃u:Value,(m++l)[i*n+j]?=some u/\u.oneCell'=true/\R b u:=by
 intro i e j b f c;by_cases r:i<elems.length
 ·rw[XS r]at f;obtain⟨u,g,h⟩:=o i e j b f c;exact⟨u,by rw[XS (XN.1 g).1];exact g,h⟩
 rw[XW (by omega)]at f;obtain⟨u,g,h⟩:=p _ e j b f c;refine⟨u,?_,h⟩;have t:elems.length*n<=i*n:=XX _ (by omega);rw[XW (by omega),s,<- g]
 congr 1
 rw[Nat.mul_sub_right_distrib];omega
theorem He {A:OH} {a f:Nat} {o:OObj} (p:w'.ownsRow 0 o.ty o.es j f m) (R:o.elems.length=f) (y:0<o.es) (t: ∀e∈o.elems,e.length=o.es) (h: ∀(i:Nat) e (c:Nat) x,o.elems[i]?=some e->e[c]?=some x-> ∃u:Value,m[i*o.es+c]?=some u/\u.oneCell'=true/\x.rel v A b w' u) (K:v a n=none->j= .slice none 0 0) (q: ∀g cap cur,j= .slice (some ⟨g,0,none⟩) f cap->w'.heap[g]?=some (.cells cur o.ty (0,0))->v a n=some (g,cap)) (l:j= .slice none 0 0->v a n=none):objRel v A b w' a n o:=by
 refine⟨t,y,?_⟩;obtain⟨Q,C⟩:=p;rcases C with⟨z,N⟩|⟨g,cap,cur,z,_,B,F,E,G,I⟩
 ·rw[l z];exact Y2.1 (by omega)
 rw[q g cap cur z B];refine⟨cur,B,G,by omega,E,fun i e c x D J=>?_⟩;obtain⟨u,s,L,M⟩:=h i e c x D J;refine⟨u,?_,L,M⟩;rw[<- I,Yl]at s;split at s
 ·simpa using s
 cases s
theorem Hf {l:OH} {Y':Nat->Prop} {a b:Nat} {o:OObj} (e:w'.ownsRow 0 o.ty o.es j b m) (y:o.elems.length=b) (u:(l a)[n]?=some o) (h: ∀g cap cur,j= .slice (some ⟨g,0,none⟩) b cap->w'.heap[g]?=some (.cells cur o.ty (0,0))->v a n=some (g,cap)) (c:j= .slice none 0 0->v a n=none):AV.rel v l Y' w' (.sl a n 0 b) j:=by
 refine⟨o,u,by omega,?_⟩;obtain⟨x,s⟩:=e;rcases s with⟨f,q⟩|⟨g,cap,cur,f,_,t,p,_⟩
 ·exact .inl ⟨c f,f,q,rfl⟩
 exact .inr ⟨g,cap,cap,h g cap cur f t,by rw[f,aae],by omega,fun _=>rfl⟩
def valρ:Value->Option (Nat×Nat)
 | .slice (some a) _ cap=>some (a.block,cap)
 |_=>none
theorem vk (h:w.grownBy w' none):Ext w w':=⟨h.os,h.tape,h.output,h.size,fun k b=>h.block k b (by simp)⟩
theorem D6 {v:Act} (V:v.defers=[]) (K:v.tmps.size=s.tmps.length) (A:Inv w0 O X s.H ρ w) (L:aT X ρ s v w) {d:Nat} {e:TypeId} {vs:Value} (U:s.H d=[]) (J:0<n) (I: ∀l∈x,l.length=n) (F:Gd ρ s.H (Xo X ρ s.H) w vs x n m) (p:w'.ownsRow 0 e n j x.length m) (W:w.grownBy w' none) (T:j.ownBlock=none\/j.ownBlock=some w.heap.size):
  de w0 O X (AS.put ⟨s.tmps,aw s.H d [⟨e,n,x⟩]⟩ (some d) (.one (.sl d 0 0 x.length))) (v.put (some d) j) w':=by
 obtain⟨_,aa,_,Z,D⟩:=F;have z:=vk W;have M: ∀g c,valρ j=some (g,c)->g=w.heap.size:=fun g c h=>by
  rcases p.2 with⟨q,_⟩|⟨R,cap,cur,q,_⟩
  ·rw[q]at h;cases h
  rw[q]at h T;simp[valρ]at h;simp[Value.ownBlock]at T;omega
 have B: ∀(r b G:Nat),(if r=0 then valρ j else none)=some (b,G)->w.heap.size<=b:=fun r b G h=>by
  split at h
  ·have:=M b G h;omega
  cases h
 have t: ∀(g cap:Nat) (cur:Array Value),j= .slice (some ⟨g,0,none⟩) x.length cap->w'.heap[g]?=some (.cells cur e (0,0))->newρ ρ d (fun r=>if r=0 then valρ j else none) d 0=some (g,cap):=fun g cap cur q _=>by
  rw[newρ_eq,if_pos rfl,q];rfl
 have C:j= .slice none 0 0->newρ ρ d (fun r=>if r=0 then valρ j else none) d 0=none:=fun q=>by rw[newρ_eq,if_pos rfl,q];rfl
 refine Ab V K A L z U (fun r=>if r=0 then valρ j else none) B (fun r r' b c G h S=>?_) (fun r o E=>?_) (fun r o E=>?_) ?_
 ·split at h
  ·split at S
   ·omega
   cases S
  cases h
 ·cases r with
  |succ r=>simp at E
  |zero=>simp at E;subst E;exact fun l N y Q=>ck (Z l N y Q)
 ·cases r with
  |succ r=>simp at E
  |zero=>
   simp at E;subst E;refine He (o:=⟨e,n,x⟩) p rfl J I (fun i l f y N Q=>?_) (fun h=>?_) t C
   ·obtain⟨u,u1,u2,u3⟩:=D i l f y N Q;exact⟨u,u1,u2,iW A z U B u3⟩
   rcases p.2 with⟨q,_⟩|⟨R,cap,cur,q,_,Y,_⟩
   ·exact q
   rw[t R cap cur q Y]at h;cases h
 exact Hf (Y':=Xo X (newρ ρ d (fun r=>if r=0 then valρ j else none)) (aw s.H d [⟨e,n,x⟩])) (o:=⟨e,n,x⟩) p rfl (by rw[aI];rfl) t C
theorem D7 {ba:Act} (t:Inv w0 O X s.H ρ w) (br:aT X ρ s ba w) {a:Nat} {us:List Value} {vs v':Value} (ho:(s.H a)[n]?=some A) (bl: ∀q∈x,q.length=A.es) (bw: ∀(i:Nat) e (l:Nat) q,A.elems[i]?=some e->e[l]?=some q-> ∃u:Value,m[i*A.es+l]?=some u/\u.oneCell'=true/\q.rel ρ s.H (Xo X ρ s.H) w u) (bt:m.length=A.elems.length*A.es) (av:j.ownBlock=(ρ a n).map (·.1)) (bd:Gd ρ s.H (Xo X ρ s.H) w vs x A.es us) (ac:w'.ownsRow 0 A.ty A.es v' (A.elems.length+x.length) (m++us)) (hg:w.grownBy w' j.ownBlock) (S:v'.ownBlock=j.ownBlock\/v'.ownBlock=some w.heap.size):
  let k:Nat->Nat->Bool:=fun q y=>q==a&&y==n
  let U:=aw s.H a (((s.H a).map (iQ k)).set n {A with elems:=A.elems++x})
  (∀e∈A.elems,∀q∈e,isPure q=true)->
  ∃E,Inv w0 O X U E w'/\aT X E ⟨s.tmps.map (aM k),U⟩ ba w'/\AV.rel E U (Xo X E U) w' (.sl a n 0 (A.elems.length+x.length)) v':=by
 intro k U bn;obtain⟨_,bR,_,hp,a6⟩:=bd;obtain⟨q1,q2,q3⟩:=t.objs a n A ho;have bq:n<(s.H a).length:=(XN.1 ho).1;have W: ∀r':Nat,(U a)[r']?=if r'=n then some {A with elems:=A.elems++x}else((s.H a)[r']?).map (iQ k):=fun r'=>by
  show(aw _ _ _ a)[r']?=_;rw[aI];by_cases M:r'=n
  ·subst M;rw[if_pos rfl,Yz];simp[bq]
  rw[if_neg M,Yy (Zl M),XK]
 have a1: ∀a',a'≠a->U a'=s.H a':=fun a' ha=>ay ha
 generalize a5:(fun q y=>if q=a/\y=n then valρ v' else ρ q y:Rho)=E;have R:E a n=valρ v':=by rw[<- a5];exact if_pos ⟨rfl,rfl⟩
 have G: ∀q y,¬(q=a/\y=n)->E q y=ρ q y:=fun q y h=>by rw[<- a5];exact if_neg h
 have ad: ∀g c,valρ v'=some (g,c)->(∃c0,ρ a n=some (g,c0))\/g=w.heap.size:=fun g c h=>by
  rcases ac.2 with⟨hv,_⟩|⟨g',cap,cur,hv,_⟩
  ·rw[hv]at h;cases h
  rw[hv]at h S;simp[valρ]at h;rcases S with S|S
  ·left;rw[av]at S;cases M:ρ a n with
   |none=>rw[M]at S;simp[Value.ownBlock]at S
   |some T=>
    obtain⟨b0,c0⟩:=T;rw[M]at S;simp[Value.ownBlock]at S;exact⟨c0,by rw[<- h.1,S]⟩
  right;simp[Value.ownBlock]at S;omega
 -- a ah row of U other than (a, n) is one of H, killed or not
 have K: ∀(q y:Nat) F,(U q)[y]?=some F-> ¬(q=a/\y=n)-> ∃J,(s.H q)[y]?=some J/\F.ty=J.ty/\F.es=J.es/\F.elems.length=J.elems.length/\(F=J/\q≠a\/F=iQ k J):=fun q y F C a7=>by
  by_cases hx:q=a
  ·subst hx;rw[W,if_neg (fun h=>a7 ⟨rfl,h⟩)]at C;obtain⟨J,L,V⟩:=XI.1 C;exact⟨J,L,by rw[<- V];rfl,by rw[<- V];rfl,by rw[<- V];simp[iQ],.inr V.symm⟩
  rw[a1 q hx]at C;exact⟨F,C,rfl,rfl,rfl,.inl ⟨rfl,hx⟩⟩
 have ah: ∀(q y:Nat) F,(s.H q)[y]?=some F-> ¬(q=a/\y=n)-> ∃J,(U q)[y]?=some J/\J.es=F.es/\J.elems.length=F.elems.length:=fun q y F C a7=>by
  by_cases hx:q=a
  ·subst hx;refine⟨iQ k F,?_,rfl,by simp[iQ]⟩;rw[W,if_neg (fun h=>a7 ⟨rfl,h⟩),C];rfl
  exact⟨F,by rw[a1 q hx];exact C,rfl,rfl⟩
 have ap: ∀b,b<w.heap.size->Xo X E U b->Xo X ρ s.H b:=fun b S hX=>by
  rcases hX with hX|⟨q,y,F,c,L,V⟩
  ·exact .inl hX
  by_cases D:q=a/\y=n
  ·obtain⟨rfl,rfl⟩:=D;rw[R]at V;rcases ad b c V with⟨c0,aa⟩|hh
   ·exact .inr ⟨q,y,A,c0,ho,aa⟩
   omega
  obtain⟨J,k1,_⟩:=K q y F L D;rw[G q y D]at V;exact .inr ⟨q,y,J,c,k1,V⟩
 have mono: ∀q j,AV.rel ρ s.H (Xo X ρ s.H) w q j->AV.rel E U (Xo X E U) w' (aL k q) j:=fP (oT k) fun q u hn hx=>by
  cases q with
  |fn=>cases hn
  |p q=>
   have Y:bO (fun b=>Xo X ρ s.H b\/Xo X E U b) w q u:=bO.weaken (fun b S Q=>Q.elim id (ap b S)) hx;have z2:bO (fun b=>Xo X ρ s.H b\/Xo X E U b) w' q u:=bO.stays ⟨hg.size,fun p z hp Q=>by
    have bm:=tu Q;unfold World.cell? at Q⊢;rw[hg.block _ bm (fun B=>?_)]
    ·exact Q
    apply hp;left;rw[av]at B;cases M:ρ a n with
    |none=>rw[M]at B;cases B
    |some T=>
     rw[M]at B;simp at B;exact .inr ⟨a,n,A,T.2,ho,by rw[M,B]⟩⟩ Y
   exact bO.weaken (fun b _ Q=> .inr Q) z2
  |sl q y bh len=>
   simp only[aL];by_cases D:q=a/\y=n
   ·obtain⟨rfl,rfl⟩:=D;simp[k];trivial
   have:k q y=false:=by simp[k];omega
   simp only[this,YD,if_false];obtain⟨F,Z,h2,h3⟩:=hx;obtain⟨J,L,V,g3⟩:=ah q y F Z D;exact⟨J,L,by omega,by rw[G q y D,V];exact h3⟩
  |ptr q y i l=>
   simp only[aL];by_cases D:q=a/\y=n
   ·obtain⟨rfl,rfl⟩:=D;simp[k];trivial
   have:k q y=false:=by simp[k];omega
   simp only[this,YD,if_false];obtain⟨F,b,c,Z,h2,h3,h4⟩:=hx;obtain⟨J,L,V,g3⟩:=ah q y F Z D;exact⟨J,b,c,L,by rw[G q y D];exact h2,by omega,by rw[V];exact h4⟩
  |junk=>trivial
 have al: ∀q j,isPure q=true->AV.rel ρ s.H (Xo X ρ s.H) w q j->AV.rel E U (Xo X E U) w' q j:=fun q u bp hx=>by
  have:=mono q u hx;cases q<;>first|exact this|cases bp
 have a4:v'= .slice none 0 0->E a n=none:=fun hv=>by rw[R,hv];rfl
 have ag: ∀(g cap:Nat) (cur:Array Value),v'= .slice (some ⟨g,0,none⟩) (A.elems.length+x.length) cap->w'.heap[g]?=some (.cells cur A.ty (0,0))->E a n=some (g,cap):=fun g cap cur hv _=>by rw[R,hv];rfl
 have a3:(A.elems++x).length=A.elems.length+x.length:=by simp
 have bx: ∀T,ρ a n=some T->T.1<w.heap.size:=fun T h=>bI (t.objs a n A ho) (b:=T.1) (c:=T.2) h
 refine⟨E,⟨?_,fun q y F C=>?_,fun q y x' y' F J b c c' C bb N ab=>?_,fun q y F b c C N=>?_,fun b S=>XZ (t.bar b S) hg.size,fun q y F C=>?_⟩,zM br mono,?_⟩
 ·refine⟨hg.os.trans t.keep.os,hg.tape.trans t.keep.tape,hg.output.trans t.keep.output,XQ t.keep.size hg.size,fun l hj hO=>?_⟩;rw[hg.block l (XZ hj t.keep.size) (fun B=>?_)]
  ·exact t.keep.block l hj hO
  rw[av]at B;cases M:ρ a n with
  |none=>rw[M]at B;cases B
  |some T=>
   rw[M]at B;simp at B;rcases(t.old a n A T.1 T.2 ho M).1 with h|h
   ·omega
   exact hO (B▸h)
 ·by_cases D:q=a/\y=n
  ·obtain⟨rfl,rfl⟩:=D;rw[W,if_pos rfl]at C;injection C with C
   subst C;refine He (o:={A with elems:=A.elems++x}) ac a3 q2 (fun e I=>?_) (Pp bt q1 (fun i e l z I Q=>?_) (fun i e l z I Q=>?_)) (fun h=>?_) ag a4
   ·rcases YK.1 I with I|I
    ·exact q1 e I
    exact bl e I
   ·obtain⟨u,u1,u2,u3⟩:=bw i e l z I Q;exact⟨u,u1,u2,al z u (bn e (XH I) z (XH Q)) u3⟩
   ·obtain⟨u,u1,u2,u3⟩:=a6 i e l z I Q;exact⟨u,u1,u2,al z u (hp e (XH I) z (XH Q)) u3⟩
   rcases ac.2 with⟨hv,_⟩|⟨g',cap,cur,hv,_,hh,_⟩
   ·exact hv
   rw[ag g' cap cur hv hh]at h;cases h
  obtain⟨J,L,V,g3,g4,g5⟩:=K q y F C D;have a2: ∀b c,ρ q y=some (b,c)->w'.heap[b]?=w.heap[b]?:=fun b c S=>hg.block b (bI (t.objs q y J L) S) (fun B=>by
   rw[av]at B;cases M:ρ a n with
   |none=>rw[M]at B;cases B
   |some T=>
    rw[M]at B;simp at B;exact D (t.inj q y a n J A b c T.2 L ho S (by rw[M,B])))
  rcases g5 with⟨rfl,b1⟩|rfl
  ·have a8:=t.self q y F L;obtain⟨Y,z2,z3⟩:=t.objs q y F L;refine⟨Y,z2,?_⟩;rw[G q y D];cases M:ρ q y with
   |none=>rw[M]at z3;exact z3
   |some T=>
    obtain⟨b,c⟩:=T;rw[M]at z3;obtain⟨cells,p1,p2,p3,p4,p5⟩:=z3;refine⟨cells,by rw[a2 b c M];exact p1,p2,p3,p4,fun i e l z I Q=>?_⟩;obtain⟨u,u1,u2,u3⟩:=p5 i e l z I Q;refine⟨u,u1,u2,?_⟩;have hs:=a8 e (XH I) z (XH Q);have:=mono z u u3;cases z with
    |sl Y z2 bh len=>have hs:Y=q:=hs;have:k Y z2=false:=(by simp[k];omega);rename_i hm;simpa[aL,this] using hm
    |ptr Y z2 i l=>have hs:Y=q:=hs;have:k Y z2=false:=(by simp[k];omega);rename_i hm;simpa[aL,this] using hm
    |p z=>exact this
    |fn f Y qs=>have hs:Y=q:=hs.1;have: ∀y,k Y y=false:=(fun y=>by simp[k];omega);rename_i hm;simpa[aL,this] using hm
    |junk=>trivial
  obtain⟨Y,z2,z3⟩:=t.objs q y J L;refine⟨fun e I=>?_,z2,?_⟩
  ·simp only[iQ,XR]at I;obtain⟨e',af,rfl⟩:=I;rw[YB];exact Y e' af
  rw[G q y D];cases M:ρ q y with
  |none=>rw[M]at z3;simp[iQ,z3]
  |some T=>
   obtain⟨b,c⟩:=T;rw[M]at z3;obtain⟨cells,p1,p2,p3,p4,p5⟩:=z3;refine⟨cells,by rw[a2 b c M];exact p1,p2,by simpa[iQ] using p3,p4,fun i e l z I Q=>?_⟩;simp only[iQ,XK]at I;obtain⟨e',af,rfl⟩:=XI.1 I;rw[XK]at Q;obtain⟨z',a9,rfl⟩:=XI.1 Q;obtain⟨u,u1,u2,u3⟩:=p5 i e' l z' af a9;exact⟨u,u1,u2,mono z' u u3⟩
 ·by_cases Z:q=a/\y=n
  ·obtain⟨rfl,rfl⟩:=Z;by_cases h2:x'=q/\y'=y
   ·omega
   exfalso;rw[R]at N;rw[G x' y' h2]at ab;obtain⟨a0,L,_⟩:=K x' y' J bb h2;rcases ad b c N with⟨c0,aa⟩|hh
   ·have:=t.inj x' y' q y a0 A b c' c0 L ho ab aa;omega
   have:=bI (t.objs x' y' a0 L) ab;omega
  by_cases h2:x'=a/\y'=n
  ·exfalso;obtain⟨rfl,rfl⟩:=h2;rw[R]at ab;rw[G q y Z]at N;obtain⟨ae,L,_⟩:=K q y F C Z;rcases ad b c' ab with⟨c0,aa⟩|hh
   ·have:=t.inj q y x' y' ae A b c c0 L ho N aa;omega
   have:=bI (t.objs q y ae L) N;omega
  rw[G q y Z]at N;rw[G x' y' h2]at ab;obtain⟨ae,L,_⟩:=K q y F C Z;obtain⟨a0,V,_⟩:=K x' y' J bb h2;exact t.inj q y x' y' ae a0 b c c' L V N ab
 ·by_cases Z:q=a/\y=n
  ·obtain⟨rfl,rfl⟩:=Z;rw[R]at N;rcases ad b c N with⟨c0,aa⟩|hh
   ·exact t.old q y A b c0 ho aa
   have:=t.keep.size;exact⟨.inl (by omega),fun hX=>by have:=t.bar b hX;omega⟩
  rw[G q y Z]at N;obtain⟨ae,L,_⟩:=K q y F C Z;exact t.old q y ae b c L N
 ·by_cases Z:q=a/\y=n
  ·obtain⟨rfl,rfl⟩:=Z;rw[W,if_pos rfl]at C;injection C with C
   subst C;intro e I z Q;rcases YK.1 I with I|I
   ·exact t.self q y A ho e I z Q
   exact ck (hp e I z Q)
  obtain⟨J,L,V,g3,g4,g5⟩:=K q y F C Z;rcases g5 with⟨rfl,_⟩|rfl
  ·exact t.self q y F L
  intro e I z Q;simp only[iQ,XR]at I;obtain⟨e',af,rfl⟩:=I;simp only[XR]at Q;obtain⟨z',a9,rfl⟩:=Q;have:=t.self q y J L e' af z' a9;cases z' with
  |sl Y z2 bh len=>simp only[aL];split;trivial;exact this
  |ptr Y z2 i l=>simp only[aL];split;trivial;exact this
  |fn f Y qs=>simp only[aL];split;trivial;exact this
  |p z=>trivial
  |junk=>trivial
 exact Hf (o:={A with elems:=A.elems++x}) ac a3 (by rw[W,if_pos rfl]) ag a4
end
end
section
section
variable {P:Program} {w0 w w':World} {O X:Nat->Prop} {ρ:Rho} {H:OH}
theorem jr (x:AV):aL (fun _ _=>false) x=x:=by cases x<;>simp[aL]
theorem lW (t:TV):aM (fun _ _=>false) t=t:=by
 cases t with
 |one x=>simp[aM,jr]
 |agg b=>simp only[aM];congr 1;rw[show aL (fun _ _=>false)=id from funext jr];simp
 |fn f b=>simp only[aM];congr 1;rw[show aL (fun _ _=>false)=id from funext jr];simp
 |tup c=>simp only[aM];congr 1;rw[show aL (fun _ _=>false)=id from funext jr];simp
theorem iu (l:List TV):l.map (aM fun _ _=>false)=l:=by
 rw[show aM (fun _ _=>false)=id from funext lW];simp
theorem tK {d:Nat} {n:Rho} {u:OH} (y: ∀(r:Nat) o,t[r]?=some o->(u d)[r]?=some (renO d o)/\n d r=v 0 r) (A: ∀e,e<w.heap.size->c e->Xo b v (famH 0 t) e) (h:B.rel v (famH 0 t) (Xo b v (famH 0 t)) w j):(b6 d B).rel n u c w j:=by
 refine fP (nM d) (fun B j C h=>?_) B j h;cases B with
 |fn=>cases C
 |p B=>exact bO.weaken A h
 |sl a r D len=>
  obtain⟨o,l,q,s⟩:=h;by_cases m:a=0
  ·subst m;obtain⟨f1,f2⟩:=y r o l;exact⟨renO d o,f1,by simpa[renO] using q,rW (by decide) s f2⟩
  simp[famH,m]at l
 |ptr a r i g=>
  obtain⟨o,e,f,l,q,s,z⟩:=h;by_cases m:a=0
  ·subst m;obtain⟨f1,f2⟩:=y r o l;exact⟨renO d o,e,f,f1,by rw[f2];exact q,by simpa[renO] using s,z⟩
  simp[famH,m]at l
 |junk=>trivial
theorem nX {s:OH} {d:Nat} (h:r.rel ρ H b w j) (B: ∀x j,x.rel ρ H b w j->AV.rel v s c w' (b6 d x) j):(renTV d r).rel v s c w' j:=by
 have agg: ∀l j,bC ρ H b w l j->bC v s c w' (l.map (b6 d)) j:=fun l j h=>by
  obtain⟨vs,n,o,A⟩:=h;refine⟨vs,n,by simpa using o,fun g x p=>?_⟩;rw[XK]at p;obtain⟨y,C,rfl⟩:=XI.1 p;obtain⟨u,D,m,E⟩:=A g y C;exact⟨u,D,m,B _ _ E⟩
 cases r with
 |one x=>exact B _ _ h
 |agg l=>exact agg l j h
 |fn f l=>obtain⟨u,n,o⟩:=h;exact⟨u,agg l u n,o⟩
 |tup I=>
  obtain⟨vs,n,o,A⟩:=h;refine⟨vs,n,by simpa using o,fun g e l p=>?_⟩;rw[XK]at p;obtain⟨y,C,q⟩:=XI.1 p;obtain⟨F,z⟩:=y;simp at q;obtain⟨rfl,rfl⟩:=q;obtain⟨u,D,m⟩:=A g F z C;refine⟨u,D,?_⟩;rcases m with⟨m,E⟩|⟨m,x,rfl,G⟩
  ·exact .inl ⟨m,agg _ _ E⟩
  exact .inr ⟨m,_,rfl,B _ _ G⟩
theorem JH (c:isPure B=true) (h:B.rel ρ H b w j):bO b w (tX B) j:=by
 cases B<;>first|exact h|cases c
theorem yr {own:Bool} (V: ∀(a n:Nat) (o:OObj),(H a)[n]?=some o->objRel ρ H b w a n o) (hZ: ∀g,c g->b g) (S:own=true-> ∀(a n:Nat) (o:OObj) (g l:Nat),(H a)[n]?=some o->ρ a n=some (g,l)-> ¬c g) (h:r.rel ρ H b w j) (y:d8 own H r=true):
  (gI H r).rel (fun _ _=>none) (fun _=>[]) c w j:=by
 have wk: ∀x u,bO b w x u->bO c w x u:=fun x u h=>bO.weaken (fun g _ hb=>hZ g hb) h
 unfold d8 at y;split at y
 ·rename_i a n p len;simp only[Yh]at y;obtain⟨U,y⟩:=y;obtain⟨o,K,g2,g3⟩:=h;rw[K]at y;simp only[XO]at y;simp only[gI,K];show bO _ _ _ _;obtain⟨q1,q2,q3⟩:=V a n o K;have T:(((o.elems.take (p+len)).drop p).map (List.map tX)).length=len:=by simp;omega
  rcases g3 with⟨M,L,gl,go⟩|⟨g,l,cap,M,L,aa,_⟩
  ·rw[Y2.1 (T.trans gl),L];exact bO.nil _ _
  by_cases F:len=0
  ·rw[Y2.1 (T.trans F),L,F];exact bO.nil _ _
  rw[M]at q3;obtain⟨cells,p1,p2,p3,p4,p5⟩:=q3;have G: ∀(i:Nat) e,(((o.elems.take (p+len)).drop p).map (List.map tX))[i]?=some e-> ∃C,o.elems[p+i]?=some C/\e=C.map tX:=fun i e B=>by
   rw[XK]at B;obtain⟨C,q,rfl⟩:=XI.1 B;rw[Yr,Yl]at q;split at q
   ·exact⟨C,q,rfl⟩
   cases q
  have A: ∀(i:Nat) e (m:Nat) x,(((o.elems.take (p+len)).drop p).map (List.map tX))[i]?=some e->e[m]?=some x-> ∃u:Value,cells[(p+i)*o.es+m]?=some u/\bO c w x u:=fun i e m x B z=>by
   obtain⟨C,q,rfl⟩:=G i e B;rw[XK]at z;obtain⟨x',I,rfl⟩:=XI.1 z;obtain⟨u,D,E,J⟩:=p5 _ C m x' q I;exact⟨u,D,wk _ _ (JH (y C (XH q) x' (XH I)) J)⟩
  rw[L];have:=bO.sl (X:=c) (w:=w) g (p*o.es) o.es cap (((o.elems.take (p+len)).drop p).map (List.map tX)) (fun i m=>(cells[(p+i)*o.es+m]?).getD undef) (S U a n o g l K M) (XV.1 p1).1
   (fun e B=>by
    simp only[XR]at B;obtain⟨C,q,rfl⟩:=B;rw[YB];exact q1 C (YT (YS q))) (by omega) (by omega)
   (fun i e m x B z=>by
    obtain⟨u,D,_⟩:=A i e m x B z;rw[cell_of_row _ g _ cells o.ty (0,0) p1,<- YL,D];rfl)
   (fun i e m x B z=>by
    obtain⟨u,D,E⟩:=A i e m x B z;simp only[D,Y4];exact E)
  rw[T]at this;exact this
 ·rename_i x;unfold gI;split
  ·rename_i s;cases s
  ·rename_i s;injection s with s
   injection s with s
   subst s;have:=(aU h).1;subst this;exact bO.nil _ _
  exact wk _ _ h
 ·rename_i cs;simp only[XO]at y;obtain⟨vs,N,Q,R⟩:=h;refine⟨vs,N,Q,fun m x z=>?_⟩;obtain⟨u,D,E,J⟩:=R m x z;refine⟨u,D,E,?_⟩;have W:=y x (XH z);cases x<;>first|exact wk _ _ J|cases W
 ·rename_i f cs;simp only[XO]at y;obtain⟨u0,⟨vs,N,Q,R⟩,h4⟩:=h;refine⟨u0,⟨vs,N,Q,fun m x z=>?_⟩,h4⟩;obtain⟨u,D,E,J⟩:=R m x z;refine⟨u,D,E,?_⟩;have W:=y x (XH z);cases x<;>first|exact wk _ _ J|cases W
 cases y
theorem p7 {own:Bool} (l: ∀(a f:Nat) (o:OObj),(H a)[f]?=some o->objRel ρ H b w a f o) (m: ∀e,c e->b e) (g:own=true-> ∀e,¬c e) (h:r.rel ρ H b w j) (n:d8 own H r=true):
  (gI H r).rel (fun _ _=>none) (fun _=>[]) c w j:=
 yr l m (fun h _ _ _ e _ _ _=>g h e) h n
end
end
section
section
variable {P:Program} {w0 w w':World} {O X:Nat->Prop} {ρ:Rho} {H:OH}
theorem ee:TV.rel ρ H b w .undef undef:=⟨#[],rfl,rfl,fun j c e h=>by simp at h⟩
theorem yu {a:Nat} (h:Qs a B=true):bz a B:=by
 cases B with
 |sl b _ _ _=>have h:b=a:=(by simpa[Qs] using h);exact h
 |p B=>trivial
 |_=>cases h
theorem sK {a:Nat}: ∀{f:List AV} {e:List (Nat×Nat×Nat)},kD a f=some e->e.length=f.length/\ ∀(n:Nat) q,e[n]?=some q->f[n]?=some (.ptr a q.1 q.2.1 q.2.2)
 |[],e,h=>by simp only[kD]at h;injection h with h;subst h;exact⟨rfl,fun n q h=>by simp at h⟩
 |c::f,e,h=>by
  cases c with
  |ptr b r i j=>
   simp only[kD]at h;split at h
   ·rename_i p;subst p;obtain⟨l,s,rfl⟩:=XI.1 h;obtain⟨m,o⟩:=sK s;refine⟨by simp[m],fun n q g=>?_⟩;cases n with
    |zero=>simp at g;subst g;rfl
    |succ n=>simp at g⊢;exact o n q g
   cases h
  |_=>simp only[kD]at h;cases h
theorem EI {a:Nat} {g:List AV} {e:List (Nat×Nat×Nat)} (y:kD a g=some e) (o:0<e.length) (h:(TV.fn u g).rel ρ H b w j):(AV.fn u a e).rel ρ H b w j:=by
 obtain⟨c,⟨vs,p,r,s⟩,t⟩:=h;subst p;obtain⟨l,m⟩:=sK y;refine⟨vs,t,r.trans l.symm,o,fun n q x=>?_⟩;obtain⟨c,z,B,A⟩:=s n _ (m n q x);exact⟨c,z,A⟩
theorem qD {s:AS} {a:Act} (S:a.defers=[]) (E:a.tmps.size=s.tmps.length) (z:Inv w0 O X s.H ρ w) (F:aT X ρ s a w) {t:TypeId} {x:Operand} (ho:p.op= .store t o x) {r i j h:Nat} {g cs:List AV} (I:s.ev o=some (.one (.ptr n r i j))) (hn:gK P t=some h) (B:(s.H n)[r]?=some A) (he:A.elems[i]?=some g) (J:cs.length=h) (hj:j+h<=g.length) (hx:lL ρ s.H (Xo X ρ s.H) w cs (a.eval x).cells) (m: ∀y∈cs,bz n y) (hK: ∀v w',de w0 O X (AS.put ⟨s.tmps,aw s.H n ((s.H n).set r {A with elems:=A.elems.set i (putCells g j cs)})⟩ p.dst .undef) (a.put p.dst v) w'->f (a.put p.dst v) w'):p.wp P a w f e:=by
 obtain⟨aa,b,c,G,g2,g3,g4⟩:=bf F o _ I;rw[B]at G;injection G with G
 subst G;obtain⟨R,U⟩:=hx;have L:(a.eval x).cells.toList.length=cs.length:=by simpa using R
 obtain⟨cells,V,W,Y,Z⟩:=yN S E z F (vs:=(a.eval x).cells.toList) (j:=j) B g2 he (by omega) L (fun k y M=>by
  obtain⟨u,q,N⟩:=U k y M;exact⟨u,by simpa using q,N⟩) m
 have C: ∀u∈(a.eval x).cells,u.oneCell'=true:=fun u hu=>by
  obtain⟨k,T,rfl⟩:=abp hu;obtain⟨y,M⟩:=getElem?_of_lt (l:=cs) (k:=k) (by rw[<- R];exact T);obtain⟨u,q,N,_⟩:=U k y M;rw[aao T]at q;injection q with q
  rw[q];exact N
 have D:=sO (P:=P) (t:=t) (v:=a.eval x) (by rw[hn,R,J]) V (by simpa using W) C;unfold Oper.wp execOp;simp only[ho,g4];rw[Sy D];refine hK undef _ (dY (ρ:=ρ) S E ?_ ?_ ee)
 ·simpa using Y
 simpa using Z
theorem Ex {a:Act} (h1:a.defers=[]) (S:a.tmps.size=s.tmps.length) (D:Inv w0 O X s.H ρ w) (E:aT X ρ s a w) {q:DJ} (h:fD P s.ev s.H p.op=some q) (Z: ∀v w',de w0 O X (AS.put ⟨s.tmps.map (aM q.k),q.H⟩ p.dst q.t) (a.put p.dst v) w'->f (a.put p.dst v) w'):p.wp P a w f e:=by
 cases ho:p.op<;>rw[ho]at h<;>simp only[fD]at h<;>try cases h
 case store t ad x=>
  split at h
  ·rename_i B r i j n I hn;split at h
   ·rename_i U G;split at h
    ·rename_i l he;split at h
     ·rename_i M r' bc len T;split at h
      ·rename_i L;subst L;split at h
       ·rename_i W;injection h with h
        subst h;simp only[iu]at Z;have J:=bf E x _ T;have u:(a.eval x).oneCell'=true:=by
         obtain⟨_,_,_,V⟩:=J;rcases V with⟨_,V,_⟩|⟨_,_,_,_,V,_⟩<;>rw[V]<;>rfl
        refine qD h1 S D E ho I hn G he (cs:=[.sl M r' bc len]) (by simp;omega) (by omega) ⟨by rw[eH u];rfl,fun k y F=>?_⟩ (fun y F=>by simp at F;subst F;rfl) Z;cases k with
        |succ k=>simp at F
        |zero=>simp at F;subst F;exact⟨a.eval x,by rw[eH u];rfl,u,J⟩
       cases h
      rename_i L;split at h
      ·rename_i o2 hH;split at h
       ·rename_i W;obtain⟨c0,c1,c2,c3,c4,c5,c6⟩:=W;injection h with h
        subst h;subst c1 c2;simp only[XO]at c6;obtain⟨m1,m2,m3⟩:=yf D (a:=B) (b:=M) c0 L hH c6;have a9:=zM E m2;have J:=m3 _ _ _ (bf E x _ T);have u:(a.eval x).oneCell'=true:=by
         obtain⟨_,_,_,V⟩:=J;rcases V with⟨_,V,_⟩|⟨_,_,_,_,V,_⟩<;>rw[V]<;>rfl
        have a5:r<(s.H B).length:=(XN.1 G).1;have a1:aw (aw s.H B (s.H B++[o2])) M [] B=s.H B++[o2]:=by rw[ay (Zl L),aI]
        have a2:AS.ev ⟨s.tmps.map (aM fun x _=>x==M),aw (aw s.H B (s.H B++[o2])) M []⟩ ad=some (.one (.ptr B r i j)):=by
         cases ad with
         |tmp k=>
          simp only[AS.ev,XK]at I⊢;rw[I];simp[aM,aL,Zl L]
         |const v=>exact I
         |global g=>exact I
         |func m=>exact I
        refine qD (s:=⟨s.tmps.map (aM fun x _=>x==M),aw (aw s.H B (s.H B++[o2])) M []⟩) (a:=a) h1 (by simpa using S) m1 a9 ho a2 hn (by show(aw (aw s.H B (s.H B++[o2])) M [] B)[r]?=some U;rw[a1,XS a5];exact G) he (cs:=[.sl B (s.H B).length 0 len]) (by simp;omega) (by omega) ⟨by rw[eH u];rfl,fun k y F=>?_⟩ (fun y F=>by simp at F;subst F;rfl) ?_
        ·cases k with
         |succ k=>simp at F
         |zero=>simp at F;subst F;exact⟨a.eval x,by rw[eH u];rfl,u,J⟩
        intro v w2 af;refine Z v w2 ?_;have e1:aw (aw (aw s.H B (s.H B++[o2])) M []) B ((aw (aw s.H B (s.H B++[o2])) M [] B).set r {U with elems:=U.elems.set i (putCells l j [.sl B (s.H B).length 0 len])})=
          aw (aw s.H B ((s.H B).set r {U with elems:=U.elems.set i (putCells l j [.sl B (s.H B).length 0 len])}++[o2])) M []:=by
         funext z;rw[a1];by_cases Y:z=B
         ·subst Y;rw[aI,ay (Zl L),aI,List.set_append_left _ _ a5]
         rw[ay Y];by_cases av:z=M
         ·subst av;rw[aI,aI]
         rw[ay av,ay Y,ay av,ay Y]
        simp only[e1]at af;exact af
       cases h
      cases h
     ·rename_i m cs T;split at h
      ·rename_i qs bn;split at h
       ·rename_i W;injection h with h
        subst h;simp only[iu]at Z;have J:=EI bn W.2.2 (bf E x _ T);have u:=Eb (by simp) J;refine qD h1 S D E ho I hn G he (cs:=[.fn m B qs]) (by simp;omega) (by omega) ⟨by rw[eH u];rfl,fun k y F=>?_⟩ (fun y F=>by simp at F;subst F;exact⟨rfl,ZU W.2.2⟩) Z;cases k with
        |succ k=>simp at F
        |zero=>simp at F;subst F;exact⟨a.eval x,by rw[eH u];rfl,u,J⟩
       cases h
      cases h
     ·rename_i v hv hv2 T;split at h
      ·rename_i cs bm;split at h
       ·rename_i W;obtain⟨c1,c2,c3⟩:=W;injection h with h
        subst h;simp only[iu]at Z;simp only[XO]at c3;exact qD h1 S D E ho I hn G he c1 c2 (iL bm (bf E x _ T)) (fun y F=>yu (c3 y F)) Z
       cases h
      cases h
     cases h
    cases h
   cases h
  cases h
 case call c=>
  obtain⟨callee,⟨args⟩,⟨argTypes⟩⟩:=c;split at h
  ·rename_i sx x t t' aa N ba;simp only at aa N ba;subst aa N ba;split at h
   ·rename_i B r bc len bb l hs T bq;split at h
    ·rename_i U z sz bd G hz a8 bh;split at h
     ·rename_i W;obtain⟨c0,rfl,rfl,rfl,c4,rfl,rfl,c7,c8,c9,a0⟩:=W;injection h with h
      subst h;simp only[XO]at c4;obtain⟨tx,br,ah⟩:=X4.1 T;have ab:=D.objs B r U G;have ae:0<U.es:=ab.2.1;obtain⟨us,ag⟩:=vG D.objs ah (bf E x tx br) a0 ae;obtain⟨xs,ac,bx,bw⟩:=Qy c0 ab G (bf E sx _ hs);obtain⟨⟨A,cc,hv,bp⟩,bt,u,b2,bl⟩:=id ag;obtain⟨ti,zv,ap,b0,bR⟩:=jV hz;obtain⟨b1,C,a7⟩:=qG a8;rw[ap]at C;injection C with C;subst C
      obtain⟨b1,C,a4⟩:=uJ bh;rw[ap]at C;injection C with C;subst C
      obtain⟨v',w1,a6,al,hg,a3⟩:=kE (P:=P) w 0 t p.type U.ty zv U.es bd (dr bq) (by rw[ap];simp[b0,a7,a4]) (by rw[<- c9,<- bR];simp) ae _ _ xs ac A bb.length cc us bp bt u (by unfold maxLen;omega) c7 (Yt _);obtain⟨b3,i1,i2,i3⟩:=D7 D E G a0 bx ac.1 bw ag al hg a3 (fun l he x T=>c4 l he x T);unfold Oper.wp execOp;have R:(execOp a.eval p).run P w= .ok (.value v') w1:=by
       unfold execOp;simp only[ho,resolve,invoke,builtin,XP,Yb,XM,Z7,X9,Yu,hv,a6]
      unfold execOp at R;rw[R];exact Z v' w1 (dY h1 (by simpa using S) i1 i2 i3)
     cases h
    cases h
   cases h
  cases h
end
end
section
section
variable {P:Program} {w0 w w':World} {O X:Nat->Prop} {ρ:Rho} {H:OH}
theorem kA {f : FuncId} (h : callable P f = true) : ∃ fn, P.funcs[f]? = some fn /\ fn.body.isNone = false /\ (fn.name == "runtime.NumGoroutine") = false := by
 unfold callable at h;split at h
 ·rename_i fn hf;simp only[Yh,Bool.not_eq_true']at h;exact⟨fn,hf,by cases hb:fn.body<;>simp_all,h.2⟩
 cases h
theorem jS {e:Operand->Value} (n:p.op= .call z) (j:z.callee= .value (.func u)) (l:e (.func u)= .func (.func u) #[] #[]) (m:callable P u=true):
  (execOp e p).run P w= .ok (.enter u (z.args.map e)) w:=by
 obtain⟨q,b,g,h⟩:=kA m;unfold execOp;simp only[n,resolve,j,l,Deferred.ofValue,XP,Yb,XM,invoke];unfold callFunc;simp only[XP];show Result.andThen (.ok P w) _=_;rw[XM,b];simp only[h,g,YD,if_false]
 simp
theorem jB {e:Operand->Value} {vs:Array Value} (n:p.op= .call z) (j:z.callee= .value o) (l:e o= .func (.func u) #[] vs) (m:callable P u=true):
  (execOp e p).run P w= .ok (.enter u (z.args.map e++vs)) w:=by
 obtain⟨q,b,g,h⟩:=kA m;unfold execOp;simp only[n,resolve,j,l,Deferred.ofValue,XP,Yb,XM,invoke];unfold callFunc;simp only[XP];show Result.andThen (.ok P w) _=_;rw[XM,b];simp only[h,g,YD,if_false]
 simp
theorem jt {q:Option TV} {v:Value} {e:List TV} (p: ∀t,q=some t->t.rel ρ H b w v) (h:Ef q=some (u,e)): ∃vs:Array Value,v= .func (.func u) #[] vs/\vs.size=e.length/\ ∀(j:Nat) t,e[j]?=some t-> ∃c:Value,vs[j]?=some c/\t.rel ρ H b w c:=by
 unfold Ef at h;split at h
 ·rename_i z E;injection h with h
  injection h with h l
  subst h l;obtain⟨c,⟨vs,m,n,o⟩,C⟩:=p _ rfl;subst m;refine⟨vs,C,by simpa using n,fun j t g=>?_⟩;rw[XK]at g;obtain⟨y,r,rfl⟩:=XI.1 g;obtain⟨c,s,B,D⟩:=o j y r;exact⟨c,s,D⟩
 ·rename_i z a F;injection h with h
  injection h with h l
  subst h l;obtain⟨vs,m,n,_,o⟩:=p _ rfl;refine⟨vs,m,by simpa using n,fun j t g=>?_⟩;rw[XK]at g;obtain⟨y,r,rfl⟩:=XI.1 g;obtain⟨c,s,B⟩:=o j y r;exact⟨c,s,B⟩
 ·rename_i z first x
  split at h
  ·rename_i A;injection h with h
   injection h with h l
   subst h l;have:=(aU (p _ rfl)).1;simp only[Yh,aa0]at A;obtain⟨rfl,rfl⟩:=A;exact⟨#[],this,rfl,fun j t g=>by simp at g⟩
  cases h
 cases h
theorem rL {f:OH} {d:Nat} (h:qh B=true) (l:B.rel ρ H b w j):(b6 d B).rel v f c w' j:=by
 cases B with
 |p B=>
  cases B with
  |raw u=>
   obtain⟨rfl,g⟩:=aU (ρ:=ρ) (H:=H) l;exact bO.raw _ g
  |sl o=>cases h
  |ptr n=>cases h
 |sl a r m len=>cases h
 |ptr a r i e=>cases h
 |junk=>cases h
 |fn=>cases h
theorem QM {F:OH} {d:Nat} (h:ng r=true) (B:r.rel ρ H b w j):(renTV d r).rel v F c w' j:=by
 have agg: ∀l j,l.all qh=true->bC ρ H b w l j->bC v F c w' (l.map (b6 d)) j:=fun l j I h=>by
  simp only[XO]at I;obtain⟨vs,p,q,C⟩:=h;refine⟨vs,p,by simpa using q,fun g x s=>?_⟩;rw[XK]at s;obtain⟨y,z,rfl⟩:=XI.1 s;obtain⟨u,D,n,E⟩:=C g y z;exact⟨u,D,n,rL (I y (XH z)) E⟩
 cases r with
 |one x=>exact rL h B
 |agg l=>exact agg l j h B
 |fn f l=>obtain⟨u,p,q⟩:=B;exact⟨u,agg l u h p,q⟩
 |tup K=>
  simp only[ng,XO]at h;obtain⟨vs,p,q,C⟩:=B;refine⟨vs,p,by simpa using q,fun g e l s=>?_⟩;rw[XK]at s;obtain⟨y,z,A⟩:=XI.1 s;obtain⟨G,o⟩:=y;simp at A;obtain⟨rfl,rfl⟩:=A;obtain⟨u,D,n⟩:=C g G o z;have m:=h (G,o) (XH z);refine⟨u,D,?_⟩;rcases n with⟨n,E⟩|⟨n,x,rfl,J⟩
  ·exact .inl ⟨n,agg _ _ (by simpa only[XO] using m) E⟩
  exact .inr ⟨n,_,rfl,rL (m x (by simp)) J⟩
theorem pE {it:dc P} {d:Nat} {a:Act} (h1:a.defers=[]) (L:a.tmps.size=s.tmps.length) (A:Inv w0 O X s.H ρ w) (M:aT X ρ s a w) (ht:renTV d it.res.r=r) (R:it.res.fam.map (renO d)=t) (hd:t≠[]->s.H d=[]) {v:Value} {w1:World} {ρc:Rho} (y:Inv w (fun _=>False) (if it.res.plain then(fun _=>False)else Xo X ρ s.H) (famH 0 it.res.fam) ρc w1) (S:it.res.r.rel ρc (famH 0 it.res.fam) (Xo (if it.res.plain then(fun _=>False)else Xo X ρ s.H) ρc (famH 0 it.res.fam)) w1 v):
  de w0 O X (ji s d r t) (a.put (some d) v) w1:=by
 have l:Ext w w1:=⟨y.keep.os,y.keep.tape,y.keep.output,y.keep.size,fun k hk=>y.keep.block k hk id⟩;by_cases B:it.res.plain=true
 ·unfold CallRes.plain at B;simp only[Yh,aaF]at B;have o:t=[]:=by rw[<- R,B.1];rfl
  subst o;show de w0 O X (s.put (some d) r) _ _;refine dY h1 L (A.grow l) (M.grow l) ?_;rw[<- ht];exact QM B.2 S
 have aa:it.res.plain=false:=by simpa using B
 simp only[aa,YD,if_false]at y S;generalize ac:Xo X ρ s.H=Y at y S;have J: ∀b,Xo X ρ s.H b->Y b:=fun b K=>by rw[<- ac];exact K
 by_cases p:it.res.fam=[]
 ·rw[p]at y S;have o:t=[]:=by rw[<- R,p];rfl
  subst o;show de w0 O X (s.put (some d) r) _ _;refine dY h1 L (A.grow l) (M.grow l) ?_;rw[<- ht];refine nX S (fun x u T=>tK (fun c C f=>by simp at f) (fun b _ K=> .inl (J b K)) T)
 have o:t≠[]:=by rw[<- R];simpa using p
 have ab:ji s d r t=AS.put ⟨s.tmps,aw s.H d t⟩ (some d) r:=by
  unfold ji;rw[if_neg (by simpa using o)]
 rw[ab];have Z: ∀c b n,ρc 0 c=some (b,n)->(∃C,it.res.fam[c]?=some C)->w.heap.size<=b:=fun c b n E ⟨C,f⟩=>by
  have:=(y.old 0 c C b n (by simpa[famH] using f) E).1;rcases this with h|h
  ·exact h
  exact h.elim
 have q: ∀c b n,(if c<it.res.fam.length then ρc 0 c else none)=some (b,n)->(∃C,it.res.fam[c]?=some C)/\ρc 0 c=some (b,n):=fun c b n h=>by
  split at h
  ·rename_i ad;exact⟨⟨_,X0 ad⟩,h⟩
  cases h
 have V: ∀(c b n:Nat),(if c<it.res.fam.length then ρc 0 c else none)=some (b,n)->w.heap.size<=b:=fun c b n h=>Z c b n (q c b n h).2 (q c b n h).1
 have I: ∀x u,AV.rel ρc (famH 0 it.res.fam) (Xo Y ρc (famH 0 it.res.fam)) w1 x u->AV.rel (newρ ρ d fun c=>if c<it.res.fam.length then ρc 0 c else none) (aw s.H d t) (Xo X (newρ ρ d fun c=>if c<it.res.fam.length then ρc 0 c else none) (aw s.H d t)) w1 (b6 d x) u:=fun x u T=>by
  refine tK (fun c C f=>?_) (fun b _ K=>?_) T
  ·rw[aI,newρ_eq,if_pos (XN.1 f).1,<- R,XK,f];exact⟨rfl,rfl⟩
  rcases K with K|⟨x',y',C,n,g1,Q⟩
  ·exact .inl (J b (.inl K))
  by_cases N:x'=d
  ·subst N;rw[newρ_eq]at Q;obtain⟨⟨U,m⟩,g3⟩:=q y' b n Q;exact .inr ⟨0,y',U,n,by simpa[famH] using m,g3⟩
  rw[ay N]at g1;rw[newρ_ne N]at Q;exact .inl (J b (.inr ⟨x',y',C,n,g1,Q⟩))
 refine Ab h1 L A M l (hd o) (fun c=>if c<it.res.fam.length then ρc 0 c else none) V (fun c r' b n n' g g'=>?_) (fun c C f=>?_) (fun c C f=>?_) ?_
 ·obtain⟨⟨o1,ae⟩,g1⟩:=q c b n g;obtain⟨⟨U,m⟩,Q⟩:=q r' b n' g';exact(y.inj 0 c 0 r' o1 U b n n' (by simpa[famH] using ae) (by simpa[famH] using m) g1 Q).2
 ·rw[<- R,XK]at f;obtain⟨U,m,rfl⟩:=XI.1 f;intro e G x T;simp only[renO,XR]at G;obtain⟨e',D,rfl⟩:=G;simp only[XR]at T;obtain⟨x',ag,rfl⟩:=T;exact dj _ _
 ·rw[<- R,XK]at f;obtain⟨U,m,rfl⟩:=XI.1 f;have W:=y.objs 0 c U (by simpa[famH] using m);obtain⟨z1,z2,z3⟩:=W;refine⟨fun e G=>?_,z2,?_⟩
  ·simp only[renO,XR]at G;obtain⟨e',D,rfl⟩:=G;rw[YB];exact z1 e' D
  rw[newρ_eq,if_pos (XN.1 m).1];cases E:ρc 0 c with
  |none=>rw[E]at z3;simp[renO,z3]
  |some bc=>
   obtain⟨b,n⟩:=bc;rw[E]at z3;obtain⟨cells,p1,p2,p3,p4,p5⟩:=z3;refine⟨cells,p1,p2,by simpa[renO] using p3,p4,fun i e j z G hz=>?_⟩;simp only[renO,XK]at G;obtain⟨e',D,rfl⟩:=XI.1 G;rw[XK]at hz;obtain⟨z',af,rfl⟩:=XI.1 hz;obtain⟨u,u1,u2,u3⟩:=p5 i e' j z' D af;exact⟨u,u1,u2,I z' u u3⟩
 rw[<- ht];exact nX S I
def KF (P:Program) (f:FuncId) (args:List TV) (res:CallRes) (w:World):Prop:=
 callable P f=true/\ ∀(X:Nat->Prop) (vs:Array Value),(∀b,X b->b<w.heap.size)->vs.size=args.length->
  (∀(j:Nat) t,args[j]?=some t-> ∃v:Value,vs[j]?=some v/\t.rel (fun _ _=>none) (fun _=>[]) X w v)->
  Calls P f vs w fun e w'=> ∃v,e= .returned v/\ ∃ρ:Rho,
   Inv w (fun _=>False) X (famH 0 res.fam) ρ w'/\res.r.rel ρ (famH 0 res.fam) (Xo X ρ (famH 0 res.fam)) w' v
def nA (P:Program) (b:List (dc P)) (w:World):Prop:= ∀c∈b,KF P c.f c.args c.res w
theorem gL.at {b:List (dc P)} (h:gL P b) (w:World):nA P b w:=fun e c=>⟨(h e c).1,fun X vs=>(h e c).2 X w vs⟩
theorem Pt {C:List (dc P)} {i d:Nat} {a:Act} (hI:nA P C w) (h1:a.defers=[]) (S:a.tmps.size=s.tmps.length) (A:Inv w0 O X s.H ρ w) (M:aT X ρ s a w) (ho:p.op= .call z) (D:z.callee= .value (.func u)) (h:b8 P C q i d s.ev s.H p.op=some (r,t)) (hd:t≠[]->s.H d=[]) (I:p.dst=some d) (hK: ∀v w',de w0 O X (ji s d r t) (a.put p.dst v) w'->f (a.put p.dst v) w'):p.wp P a w f e:=by
 rw[ho]at h;simp only[b8,D]at h;split at h
 ·rename_i V ts R T;split at h
  ·rename_i hc;obtain⟨c1,W,Y,_⟩:=hc;injection h with h
   injection h with ht hF
   subst c1;obtain⟨e1,e2⟩:=bU T;obtain⟨m,G⟩:=hI V (aaX R);have J:=jS (w:=w) ho D (e:=a.eval) rfl m;unfold Oper.wp;rw[J];simp only[Oper.upon];simp only[XO]at Y;have Z: ∀b,(if V.res.plain then(fun _=>False)else Xo X ρ s.H:Nat->Prop) b->Xo X ρ s.H b:=fun b B=>by
    split at B
    ·exact B.elim
    exact B
   have E: ∀b,Xo X ρ s.H b->b<w.heap.size:=fun b B=>by
    rcases B with B|⟨x,y,o',n,g1,g2⟩
    ·exact A.bar b B
    exact bI (A.objs x y o' g1) g2
   refine(G (if V.res.plain then(fun _=>False)else Xo X ρ s.H) (z.args.map a.eval) (fun b B=>E b (Z b B)) ?_ ?_).mono ?_
   ·rw[<- W];simp[e1]
   ·intro j l hu;rw[<- W,XK]at hu;obtain⟨t0,L,rfl⟩:=XI.1 hu;obtain⟨x,hx,U⟩:=e2 j t0 L;refine⟨a.eval x,by rw[YC];simp at hx;rw[hx];rfl,?_⟩;exact p7 A.objs Z (fun N b B=>by rw[N]at B;exact B) (bf M x t0 U) (Y t0 (XH L))
   rintro g w1 ⟨v,rfl,aa,hi,hr⟩;show f (a.put p.dst v) w1;refine hK v w1 ?_;rw[I];exact pE h1 S A M ht hF hd hi hr
  cases h
 cases h
theorem Lu {D:List (dc P)} {i d:Nat} {a:Act} (hI:nA P D w) (h1:a.defers=[]) (Y:a.tmps.size=s.tmps.length) (m:Inv w0 O X s.H ρ w) (J:aT X ρ s a w) {k:Tmp} (ho:p.op= .call z) (E:z.callee= .value (.tmp k)) (h:b8 P D q i d s.ev s.H p.op=some (r,t)) (hd:t≠[]->s.H d=[]) (R:p.dst=some d) (hK: ∀v w',de w0 O X (ji s d r t) (a.put p.dst v) w'->f (a.put p.dst v) w'):p.wp P a w f e:=by
 rw[ho]at h;simp only[b8,E]at h;split at h
 ·rename_i l T it ts V W Z;split at h
  ·rename_i hc;obtain⟨c1,c2,c3,_⟩:=hc;injection h with h
   injection h with ht hF
   subst c1;obtain⟨L,e2⟩:=bU Z;obtain⟨us,k1,k2,k3⟩:=jt (v:=a.eval (.tmp k)) (fun t0 C=>bf J (.tmp k) t0 C) V;obtain⟨B,N⟩:=hI it (aaX W);have S:=jB (w:=w) ho E (e:=a.eval) k1 B;unfold Oper.wp;rw[S];simp only[Oper.upon];simp only[XO]at c3;have U: ∀b,(if it.res.plain then(fun _=>False)else Xo X ρ s.H:Nat->Prop) b->Xo X ρ s.H b:=fun b A=>by
    split at A
    ·exact A.elim
    exact A
   have M: ∀b,Xo X ρ s.H b->b<w.heap.size:=fun b A=>by
    rcases A with A|⟨x,y,o',n,g1,g2⟩
    ·exact m.bar b A
    exact bI (m.objs x y o' g1) g2
   refine(N (if it.res.plain then(fun _=>False)else Xo X ρ s.H) (z.args.map a.eval++us) (fun b A=>M b (U b A)) ?_ ?_).mono ?_
   ·rw[<- c2];simp[L,k2]
   ·intro j u hu;rw[<- c2,XK]at hu;obtain⟨t0,C,rfl⟩:=XI.1 hu;have G:=c3 t0 (XH C);by_cases hj:j<ts.length
    ·rw[XS hj]at C;obtain⟨x,hx,aa⟩:=e2 j t0 C;refine⟨a.eval x,by rw[X8 (by simp at L⊢;omega),YC];simp at hx;rw[hx];rfl,?_⟩;exact p7 m.objs U (fun I b A=>by rw[I]at A;exact A) (bf J x t0 aa) G
    rw[XW (by omega)]at C;obtain⟨v,v1,v2⟩:=k3 _ t0 C;refine⟨v,by rw[Yi (by simp at L⊢;omega)];simp at L⊢;rw[<- L];exact v1,?_⟩;exact p7 m.objs U (fun I b A=>by rw[I]at A;exact A) v2 G
   rintro g w1 ⟨v,rfl,ab,hi,hr⟩;show f (a.put p.dst v) w1;refine hK v w1 ?_;rw[R];exact pE h1 Y m J ht hF hd hi hr
  cases h
 cases h
theorem Iv {I:List (dc P)} {i d:Nat} {a:Act} (h1:a.defers=[]) (ae:a.tmps.size=s.tmps.length) (y:Inv w0 O X s.H ρ w) (G:aT X ρ s a w) (ho:p.op= .call z) (m:z.callee= .builtin .append) (h:b8 P I q i d s.ev s.H p.op=some (r,t)) (hd:t≠[]->s.H d=[]) (N:p.dst=some d) (hK: ∀v w',de w0 O X (ji s d r t) (a.put p.dst v) w'->f (a.put p.dst v) w'):p.wp P a w f e:=by
 rw[ho]at h;simp only[b8,m]at h;obtain⟨callee,⟨args⟩,⟨argTypes⟩⟩:=z;simp only at m;subst m;split at h
 ·rename_i sx x ty a0 l V;simp only at l V;subst l V;split at h
  ·rename_i W b hs hx ac;split at h
   ·rename_i g sz Y hz U Z;split at h
    ·rename_i hc;obtain⟨rfl,c7,c8,c9,u,J⟩:=hc;injection h with h
     injection h with ht hF
     subst ht hF;obtain⟨tx,af,C⟩:=X4.1 hx;obtain⟨us,B⟩:=vG y.objs C (bf G x tx af) J u;have ad:=(aU (bf G sx _ hs)).1;obtain⟨⟨A,cc,hv,ab⟩,ag,R,av,aa⟩:=id B;obtain⟨ti,zv,E,al,ah⟩:=jV hz;obtain⟨ap,j,T⟩:=qG U;rw[E]at j;injection j with j;subst j
     obtain⟨ap,j,M⟩:=uJ Z;rw[E]at j;injection j with j;subst j
     obtain⟨v',w1,S,n,hg,L⟩:=kE (P:=P) w 0 ty p.type b zv sz Y (dr ac) (by rw[E];simp[al,T,M]) (by rw[<- c9,<- ah];simp) u (.slice none 0 0) 0 [] (aah _ _ _ _) A W.length cc us ab ag R (by unfold maxLen;omega) (by rw[Yw];exact c7) (Yt _);have D:(execOp a.eval p).run P w= .ok (.value v') w1:=by
      unfold execOp;simp only[ho,resolve,invoke,builtin,XP,Yb,XM,Z7,X9,Yu,hv,ad,S]
     unfold Oper.wp;rw[D];rw[Yw,ZV]at n;refine hK v' w1 ?_;rw[N];exact D6 h1 ae y G (hd (by simp)) u J B n hg L
    cases h
   cases h
  cases h
 cases h
theorem GF {D:List (dc P)} {i d:Nat} {a:Act} (M:nA P D w) (G:a.defers=[]) (A:a.tmps.size=s.tmps.length) (y:Inv w0 O X s.H ρ w) (B:aT X ρ s a w) (h:b8 P D q i d s.ev s.H p.op=some (r,t)) (I:t≠[]->s.H d=[]) (C:p.dst=some d) {Q:Exit->Act->World->Prop} (L: ∀v w',de w0 O X (ji s d r t) (a.put p.dst v) w'->f (a.put p.dst v) w'):p.wp P a w f Q:=by
 have E:(∃v w',(execOp a.eval p).run P w= .ok (.value v) w'/\de w0 O X (ji s d r t) (a.put (some d) v) w')->p.wp P a w f Q:=fun⟨v,w1,g1,g2⟩=>by
  unfold Oper.wp;rw[g1];exact L v w1 (by rw[C];exact g2)
 have ne: ∀{e:OObj} {l:List OObj},e::l≠[]:=fun{e l}=>by simp
 cases z:p.op
 case box e x=>
  refine E (LK G A y B z h (I ?_));rw[z]at h;simp only[b8]at h;split at h
  ·split at h
   ·injection h with h;injection h with h J;rw[<- J];simp
   cases h
  cases h
 case alloc e=>
  refine E (Es G A y B z h (I ?_));rw[z]at h;simp only[b8]at h;split at h
  ·split at h
   ·injection h with h;injection h with h J;rw[<- J];simp
   cases h
  cases h
 case makeSlice ty l c=>
  refine E (IN G A y B z h (I ?_));rw[z]at h;simp only[b8]at h;split at h
  ·split at h
   ·split at h
    ·injection h with h;injection h with h J;rw[<- J];simp
    cases h
   cases h
  cases h
 case buildSlice ty n parts=>exact E (LN G A y B z h I)
 case call c=>
  cases u:c.callee with
  |value x=>
   cases x with
   |func g=>exact Pt M G A y B z u h I C L
   |tmp k=>exact Lu M G A y B z u h I C L
   |const k=>rw[z]at h;simp only[b8,u]at h;cases h
   |global k=>rw[z]at h;simp only[b8,u]at h;cases h
  |invoke j m=>rw[z]at h;simp only[b8,u]at h;cases h
  |builtin b=>
   cases b
   case append=>exact Iv G A y B z u h I C L
   all_goals (rw[z]at h;simp only[b8,u]at h;cases h)
 all_goals (rw[z]at h;simp only[b8]at h;cases h)
theorem By {m:List (dc P)} {i:Nat} {a:Act} (C:nA P m w) (y:de w0 O X s a w) (h:dL P m q i p s=some l) (n: ∀v w',de w0 O X l (a.put p.dst v) w'->f (a.put p.dst v) w'):p.wp P a w f e:=by
 obtain⟨u,j,ρ,c,g⟩:=y;have g:aT X ρ s a w:=g;unfold dL at h;split at h
 ·obtain⟨t,r,rfl⟩:=XI.1 h;obtain⟨v,A,B⟩:=uW (bf g) r;unfold Oper.wp;rw[A];exact n v w (dY u j c g B)
 split at h
 ·obtain⟨t,r,rfl⟩:=XI.1 h;obtain⟨v,A,B⟩:=u5 (bf g) c.objs r;unfold Oper.wp;rw[A];exact n v w (dY u j c g B)
 split at h
 ·rename_i b I;injection h with h
  subst h;exact Ex u j c g I n
 split at h
 ·cases h
 rename_i d x;split at h
 ·rename_i t r;injection h with h
  subst h;refine GF C u j c g r (fun G=>absurd rfl G) x ?_;rw[x]at n⊢;exact n
 ·rename_i t F D r;split at h
  ·rename_i E;injection h with h
   subst h;refine GF C u j c g r (fun _=>E) x ?_;have z:ji s d t F=AS.put ⟨s.tmps,aw s.H d F⟩ (some d) t:=by
    unfold ji;rw[if_neg (by intro h;exact D (aaF.1 h))]
   rw[z,x];rw[x]at n;exact n
  cases h
 cases h
theorem BB {j:List (dc P)} {i:Nat} {a:Act} (G:nA P j w) (c:de w0 O X s a w) (h:aQ P j q y i p s=some l) (z: ∀v w',de w0 O X l (a.put p.dst v) w'->f (a.put p.dst v) w'):
  if Region.wanted p (yielded y a.tmps)then p.wp P a w f e else f (a.put p.dst undef) w:=by
 unfold aQ at h;split at h
 ·rename_i u;rw[if_pos (by simp[Region.wanted,u])];exact By G c h z
 rename_i g J u;split at h
 ·cases h
 rename_i d I;have t:=c;obtain⟨F,x,ρ,n,m⟩:=c;split at h
 ·rename_i b B;obtain⟨v,D,C⟩:=m d _ B;have E:=(aU C).1;have A:yielded y a.tmps g=some b:=by
   unfold yielded;rw[I];simp only[YH,D,E]
  split at h
  ·rename_i r;rw[if_pos (by simp[Region.wanted,u,A,r])];exact By G t h z
  rename_i r;rw[if_neg (by simp[Region.wanted,u,A,r])];injection h with h
  subst h;exact z undef w (dY F x n m ee)
 ·rename_i B;obtain⟨v,D,vs,C,L,_⟩:=m d _ B;have A:yielded y a.tmps g=none:=by
   unfold yielded;rw[I];simp only[YH,D,C]
  rw[if_neg (by simp[Region.wanted,u,A])];injection h with h
  subst h;exact z undef w (dY F x n m ee)
 cases h
theorem im {b:List (dc P)} {i:Nat} {a:Act} (e:gL P b) (c:de w0 O X s a w) (h:aQ P b q y i p s=some l) {K:Act->World->Prop} {Q:Exit->Act->World->Prop} (f: ∀v w',de w0 O X l (a.put p.dst v) w'->K (a.put p.dst v) w'):
  if Region.wanted p (yielded y a.tmps)then p.wp P a w K Q else K (a.put p.dst undef) w:=BB (e.at w) c h f
end
end
section
def bs (P:Program) (c:Code) (Q:Exit->AS->Prop) (s:AS):Prop:=
 ∀(f:World) (O X:Nat->Prop) (a:Act) (w:World),de f O X s a w->c.wp P (fun e g h=> ∃b,Q e b/\de f O X b g h) a w
def bv (s c:AS):Prop:= ∀(b:World) (O X:Nat->Prop) (a:Act) (w:World),de b O X s a w->de b O X c a w
def iZ (next:AS->Prop) (Q:Exit->AS->Prop):Exit->AS->Prop
 | .normal,s=>next s
 |e,s=>Q e s
def lP (id:Nat) (Q:Exit->AS->Prop):Exit->AS->Prop
 | .exit b,s=>if b=id then Q .normal s else Q (.exit b) s
 |e,s=>Q e s
section
variable {P:Program} {s s':AS} {Q:Exit->AS->Prop}
theorem bv.refl (s:AS):bv s s:=fun _ _ _ _ _ h=>h
theorem bv.trans {b:AS} (h:bv s l) (k:bv l b):bv s b:=fun _ _ _ _ _ r=>k _ _ _ _ _ (h _ _ _ _ _ r)
theorem bs.weak (h:bv s s') (k:bs P g Q s'):bs P g Q s:=fun _ _ _ _ _ r=>k _ _ _ _ _ (h _ _ _ _ _ r)
theorem bs.mono {b:Exit->AS->Prop} (h:bs P g Q s) (k: ∀e s',Q e s'->b e s'):bs P g b s:=fun _ _ _ _ _ r=>
 wp_mono (h _ _ _ _ _ r) fun _ _ _ ⟨s',f,j⟩=>⟨s',k _ _ f,j⟩
theorem ak (h:Q .normal s):bs P .skip Q s:=fun _ _ _ _ _ r=>wp_skip ⟨s,h,r⟩
theorem be {id:Nat} (h:Q (.exit id) s):bs P (.exit id) Q s:=fun _ _ _ _ _ r=>wp_exit ⟨s,h,r⟩
theorem aZ (h:Q .ret s):bs P .ret Q s:=fun _ _ _ _ _ r=>wp_ret ⟨s,h,r⟩
theorem ai (b:bs P g (iZ (bs P h Q) Q) s):bs P (.seq g h) Q s:=fun _ _ _ _ _ r=>
 wp_seq (wp_mono (b _ _ _ _ _ r) fun e a w ⟨s',c,f⟩=>by
  cases e with
  |normal=>exact c _ _ _ _ _ f
  |_=>exact⟨s',c,f⟩)
theorem am {id:Nat} (h:bs P g (lP id Q) s):bs P (.block id g) Q s:=fun _ _ _ _ _ r=>
 wp_block (wp_mono (h _ _ _ _ _ r) fun e a w ⟨s',b,c⟩=>by
  cases e with
  |exit f=>
   simp only[lP]at b;simp only[Exit.inBlock];split at b
   ·rename_i hid;rw[if_pos hid];exact⟨s',b,c⟩
   rename_i hid;rw[if_neg hid];exact⟨s',b,c⟩
  |_=>exact⟨s',b,c⟩)
theorem aW {b:Bool} (m:s.ev o=some (.raw (.bool b))) (q:b=true->bs P g Q s) (n:b=false->bs P h Q s):bs P (.cond o g h) Q s:=fun _ _ _ _ _ r=>by
 obtain⟨t,p,u,j,f⟩:=id r;have l:=(aU (bf f o _ m)).1;exact wp_cond_split l (fun e=>q e _ _ _ _ _ r) (fun e=>n e _ _ _ _ _ r)
theorem aD (e:s.ev o=some (.raw (.bool true))) (b:bs P g Q s):bs P (.cond o g h) Q s:=aW e (fun _=>b) (fun b=>by cases b)
theorem ao (e:s.ev o=some (.raw (.bool false))) (b:bs P h Q s):bs P (.cond o g h) Q s:=aW e (fun b=>by cases b) (fun _=>b)
theorem bA (e:s.ev o=some (.raw (.bool true))) (b:bs P h Q s):bs P (.seq (.cond o .skip g) h) Q s:=ai (aD e (ak b))
theorem bG {id:Nat} (e:s.ev o=some (.raw (.bool false))) (b:Q (.exit id) s):bs P (.seq (.cond o g (.exit id)) h) Q s:=ai (ao e (be b))
theorem bo (h: ∃n,b n): ∃n,b n/\ ∀m,b m->n<=m:=by
 obtain⟨n,j⟩:=h
 induction n using Nat.strongRecOn with
 |_ n o=>
  by_cases e: ∃m,m<n/\b m
  ·obtain⟨m,f,g⟩:=e;exact o m f g
  exact⟨n,j,fun m l=>aaG fun c=>e ⟨m,c,l⟩⟩
theorem Bl {G:Type} (St:G->AS) (q:G->Nat) (y:G) (D:bv s (St y)) (round: ∀b,bs P g (iZ (fun s'=> ∃j,q j<q b/\bv s' (St j)) Q) (St b)):bs P (.loop g) Q s:=fun J O X a w r=>by
 classical
 let p:Act->World->Nat->Prop:=fun a w n=> ∃b,q b=n/\de J O X (St b) a w
 let m:Act->World->Nat:=fun a w=>if h: ∃n,p a w n then Classical.choose (bo h)else 0
 refine wp_loop (fun a w=> ∃n,p a w n) m ⟨_,y,rfl,D _ _ _ _ _ r⟩ ?_;intro a w t;have F:m a w=Classical.choose (bo t):=dif_pos t;obtain⟨B,o⟩:=Za (bo t);rw[<- F]at B;obtain⟨b,K,H⟩:=B;refine wp_mono (round b _ _ _ _ _ H) fun e x C ⟨s',z,A⟩=>?_
 cases e with
 |normal=>
  obtain⟨j,E,I⟩:=z;have l:=I _ _ _ _ _ A;have f: ∃n,p x C n:=⟨_,j,rfl,l⟩;refine⟨f,?_⟩;have v:m x C=Classical.choose (bo f):=dif_pos f;obtain⟨_,u⟩:=Za (bo f);have:=u (q j) ⟨j,rfl,l⟩;rw[v];omega
 |_=>exact⟨s',z,A⟩
theorem me {b:List (dc P)} (p:gL P b) {z:List Nat} {c:Array Oper} {t:World} {O X:Nat->Prop} {Q:Exit->Act->World->Prop}: ∀(l:List Oper) (k:Nat) (s s':AS) (a:Act) (w:World),(∀(j:Nat) o,l[j]?=some o->c[k+j]?=some o)->
  gZ P b z c (l.zipIdx k) s=some s'->de t O X s a w->(∀n m,de t O X s' n m->Q .normal n m)->wpOps P c Q (List.range' k l.length) a w
 |[],k,s,s',a,w,_,h,r,e=>by
  simp only[aau,gZ]at h;injection h with h
  subst h;exact e a w r
 |o::l,k,s,s',a,w,q,h,r,e=>by
  simp only[ZA,gZ]at h;split at h
  ·rename_i A f;simp only[Ym,YM,wpOps];have x:c[k]?=some o:=by have:=q 0 o rfl;simpa using this
   rw[x];simp only;have:=im (Q:=Q) p r f (K:=wpOps P c Q (List.range' (k+1) l.length)) (fun v m y=>me p l (k+1) A s' _ _ (fun j o u=>by have:=q (j+1) o (by simpa using u);rwa[show k+(j+1)=k+1+j by omega]at this) h y e);split at this
   ·rename_i g;rw[if_pos g];exact .inl this
   rename_i g;rw[if_neg g];exact this
  cases h
theorem DS (b:List (dc P)) (g:gL P b) (p:List Nat) {id:Nat} (h:gZ P b p y y.toList.zipIdx s=some s') (l:Q .normal s'):bs P (.region id y false) Q s:=fun q O X a w r=>by
 refine wp_region ?_;rw[Ya];have:=me g (Q:=fun e c f=> ∃s',Q e s'/\de q O X s' c f) y.toList 0 s s' a w (fun j o m=>by simpa using m) h r (fun c f n=>⟨s',l,n⟩);simpa using this
end
/-! ### The end of a function -/
def rM (P:Program) (s:AS):ResultVar->Option TV
 | .tmp t=>s.tmps[t]?
 | .cell a t=>match s.tmps[a]? with
  |some (.one (.ptr b r i j))=>match(s.H b)[r]? with
   |some o=>match o.elems[i]? with
    |some e=>mt P t (e.drop j)
    |none=>none
   |none=>none
  |_=>none
def AR:TV->Option (Bool×List AV)
 | .one x=>some (false,[x])
 | .agg b=>some (true,b)
 | .tup _=>none
 | .fn _ _=>none
def wh (P:Program) (s:AS):List ResultVar->Option (List (Bool×List AV))
 |[]=>some []
 |r::l=>match(rM P s r).bind AR,wh P s l with
  |some t,some b=>some (t::b)
  |_,_=>none
def o7 (P:Program) (s:AS):List ResultVar->Option TV
 |[r]=>rM P s r
 |rs=>(wh P s rs).map TV.tup
section
variable {P:Program} {w0 w:World} {O X:Nat->Prop} {ρ:Rho} {s:AS}
def vN (tmps:Array Value):ResultVar->Sem Value
 | .tmp t=>pure (tmps.getD t undef)
 | .cell b t=>do loadVar t (<- asAddr (tmps.getD b undef))
theorem Fj (b:Func) (tmps:Array Value):results b tmps=(do let vs<- b.results.mapM (vN tmps);pure (if h:vs.size=1 then vs[0]else .tuple vs)):=by
 have h: ∀(f g:ResultVar->Sem Value),f=g->(do let vs<- b.results.mapM f;pure (if h:vs.size=1 then vs[0]else .tuple vs):Sem Value)=(do let vs<- b.results.mapM g;pure (if h:vs.size=1 then vs[0]else .tuple vs)):=fun f g h=>by rw[h]
 unfold results;apply h;funext x;cases x<;>rfl
theorem ql {a:Act} (g:Inv w0 O X s.H ρ w) (l:aT X ρ s a w) {n:ResultVar} (h:rM P s n=some r):
  ∃v,(vN a.tmps n).run P w= .ok v w/\r.rel ρ s.H (Xo X ρ s.H) w v:=by
 cases n with
 |tmp k=>
  simp only[rM]at h;obtain⟨v,m,A⟩:=l k r h;exact⟨v,by simp[vN,Zc,m],A⟩
 |cell q G=>
  simp only[rM]at h;split at h
  ·rename_i x f i j C;obtain⟨v,m,o,b,c,p,y,F,z⟩:=l q _ C;rw[p]at h;simp only at h;split at h
   ·rename_i e B;obtain⟨u,D,E⟩:=oR h (lQ (yv (g.objs x f o p) y B) j);refine⟨u,?_,E⟩;simp only[vN,Zc,m,Y4,z,asAddr,XP,Yb,XM,D]
   cases h
  cases h
theorem wj {a:Act} (e:Inv w0 O X s.H ρ w) (n:aT X ρ s a w): ∀{q:List ResultVar} {m:List (Bool×List AV)},wh P s q=some m->
  ∃vs:List Value,(q.mapM (vN a.tmps)).run P w= .ok vs w/\vs.length=m.length/\
   ∀(j:Nat) b c,m[j]?=some (b,c)-> ∃u:Value,vs[j]?=some u/\((b=true/\bC ρ s.H (Xo X ρ s.H) w c u)\/(b=false/\ ∃x,c=[x]/\x.rel ρ s.H (Xo X ρ s.H) w u))
 |[],m,h=>by
  simp only[wh]at h;injection h with h
  subst h;exact⟨[],by simp,rfl,fun j b c h=>by simp at h⟩
 |r::l,m,h=>by
  simp only[wh]at h;split at h
  ·rename_i t E C D;injection h with h
   subst h;obtain⟨F,p,g⟩:=X4.1 C;obtain⟨v,J,y⟩:=ql e n p;obtain⟨vs,z,A,B⟩:=wj e n D;refine⟨v::vs,?_,by simp[A],fun j b c o=>?_⟩
   ·rw[List.mapM_cons,XP,J,XM,XP,z];rfl
   cases j with
   |succ j=>simp at o;obtain⟨u,G,I⟩:=B j b c o;exact⟨u,by simpa using G,I⟩
   |zero=>
    simp at o;subst o;refine⟨v,rfl,?_⟩;cases F with
    |one x=>simp[AR]at g;obtain⟨rfl,rfl⟩:=g;exact .inr ⟨rfl,x,rfl,y⟩
    |agg c=>simp[AR]at g;obtain⟨rfl,rfl⟩:=g;exact .inl ⟨rfl,y⟩
    |tup m=>cases g
    |fn f c=>cases g
  cases h
theorem fk {a:Act} (e:Inv w0 O X s.H ρ w) (m:aT X ρ s a w) (h:o7 P s C.results.toList=some r): ∃v,(results C a.tmps).run P w= .ok v w/\r.rel ρ s.H (Xo X ρ s.H) w v:=by
 rw[Fj,Array.mapM_eq_mapM_toList];generalize G:C.results.toList=f at h;unfold o7 at h;split at h
 ·rename_i c;obtain⟨v,K,L⟩:=ql e m h;refine⟨v,?_,L⟩;simp only[List.mapM_cons,List.mapM_nil,map_eq_pure_bind,XP,K,XM,Yb]
  simp
 rename_i p;cases o:wh P s f with
 |none=>rw[o]at h;cases h
 |some n=>
  rw[o]at h;simp at h;subst h;obtain⟨vs,y,z,A⟩:=wj e m o;refine⟨.tuple vs.toArray,?_,vs.toArray,rfl,by simpa using z,fun j b x E=>by simpa using A j b x E⟩;have g: ∀{f:List ResultVar} {n:List (Bool×List AV)},wh P s f=some n->n.length=f.length:=by
   intro f
   induction f with
   |nil=>intro n h;simp only[wh]at h;injection h with h;subst h;rfl
   |cons c l I=>
    intro n h;simp only[wh]at h;split at h
    ·rename_i r J B D;injection h with h
     subst h;simp[I D]
    cases h
  have u:vs.length≠1:=fun B=>by
   have:=g o;have q:f.length=1:=by omega
   obtain⟨c,F⟩:=List.length_eq_one_iff.1 q;exact p c F
  simp only[map_eq_pure_bind,XP,y,XM,Yb];rw[dif_neg (by simpa using u)]
def selfTV (a:Nat):TV->Prop
 | .one x=>bz a x
 | .agg b=> ∀x∈b,bz a x
 | .fn _ b=> ∀x∈b,bz a x
 | .tup c=> ∀t∈c,∀x∈t.2,bz a x
def sP (H:OH) (b:Nat) (r:TV):Prop:=match Nat.ble b 4999 with
 |true=>selfTV b r
 |false=>selfTV b r/\H b=[]
theorem wF {H:OH} (h:sP H n r):selfTV n r/\(n<=4999\/H n=[]):=by
 unfold sP at h;split at h
 ·rename_i b;exact⟨h,.inl (Nat.le_of_ble_eq_true b)⟩
 exact⟨h.1,.inr h.2⟩
theorem JR {H:OH} (h:selfTV n r) (b:H n=[]):sP H n r:=by
 unfold sP;split
 ·exact h
 exact⟨h,b⟩
theorem wE {H:OH} (h:selfTV n r) (b:n<=4999):sP H n r:=by
 unfold sP;rw[Nat.ble_eq_true_of_le b];exact h
def mB (P:Program) (c:Func) (res:CallRes) (s:AS):Prop:=
 ∃r b,o7 P s c.results.toList=some r/\sP s.H b r/\res.fam=(s.H b).map (renO 0)/\res.r=renTV 0 r
theorem Eg (G:World->Prop) {fn:Func} {args:List TV} {res:CallRes} (hf:P.funcs[u]?=some fn) (hb:fn.body=some g) (hn:callable P u=true) (h: ∀(w0:World) (X:Nat->Prop) (a:Act),G w0->de w0 (fun _=>False) X ⟨args++List.replicate (fn.ntmps-args.length) .undef,fun _=>[]⟩ a w0->g.wp P (fun e a' W=> ∃s1,((e= .normal\/e= .ret)/\ ∃s',bv s1 s'/\mB P fn res s')/\de w0 (fun _=>False) X s1 a' W) a w0) (w:World) (hG:G w):KF P u args res w:=by
 refine⟨hn,fun X vs hX a3 ab=>?_⟩;refine calls_of_wp hf hb ?_;have al:de w (fun _=>False) X ⟨args++List.replicate (fn.ntmps-args.length) .undef,fun _=>[]⟩ {tmps:=vs++Array.replicate (fn.ntmps-vs.size) undef,defers:=[]} w:=by
  refine⟨rfl,by simp[a3],fun _ _=>none,⟨Keep.refl w,fun a r o m=>by simp at m,fun a r a' r' o I b g c' m=>by simp at m,fun a r o b g m=>by simp at m,hX,fun a r o m=>by simp at m⟩,fun t x A=>?_⟩;have aa: ∀b,b<w.heap.size->Xo X (fun _ _=>none) (fun _=>[]) b->X b:=fun b _ h=>by
   rcases h with h|⟨a,r,o,g,F,h2⟩
   ·exact h
   cases h2
  by_cases ht:t<args.length
  ·rw[XS ht]at A;obtain⟨v,v1,v2⟩:=ab t x A;refine⟨v,by rw[X8 (by omega)];exact v1,TV.rel_map v2 (fun y l N=>?_)⟩;cases y with
   |p y=>exact bO.weaken aa N
   |sl a r a4 len=>obtain⟨o,F,_⟩:=N;simp at F
   |ptr a r i j=>obtain⟨o,_,_,F,_⟩:=N;simp at F
   |fn u a qs=>exact(pL (fun _=>rfl) N).elim
   |junk=>trivial
  rw[XW (by omega),YF]at A;split at A
  ·rename_i a5;injection A with A
   subst A;refine⟨undef,?_,ee⟩;rw[Yi (by omega),Y8,if_pos (by omega)]
  cases A
 refine wp_mono (h _ _ _ hG al) fun e a' W ⟨s1,⟨M,s2,hw,r,B,ap,T,K,hr⟩,ad⟩=>?_
 obtain⟨C,h5⟩:=wF T;obtain⟨F,a6,ρ,q,ae⟩:=hw _ _ _ _ _ ad;have ae:aT X ρ s2 a' W:=ae;obtain⟨v,v1,v2⟩:=fk q ae ap;have hF: ∀(k:Nat) o,(famH 0 res.fam 0)[k]?=some o-> ∃I,(s2.H B)[k]?=some I/\o=renO 0 I:=fun k o m=>by
  simp only[famH,if_true,K,XK]at m;obtain⟨I,D,R⟩:=XI.1 m;exact⟨I,D,R.symm⟩
 have U: ∀(x k:Nat) o,(famH 0 res.fam x)[k]?=some o->x=0:=fun x k o m=>by
  by_cases A:x=0
  ·exact A
  simp[famH,A]at m
 have aa: ∀b,Xo X (fun _ k=>ρ B k) (famH 0 res.fam) b->Xo X ρ s2.H b:=fun b hb=>by
  rcases hb with hb|⟨x,k,o,n,D,R⟩
  ·exact .inl hb
  have:=U x k o D;subst this;obtain⟨I,g3,_⟩:=hF k o D;exact .inr ⟨B,k,I,n,g3,R⟩
 have E: ∀x l,bz B x->AV.rel ρ s2.H (Xo X ρ s2.H) W x l->AV.rel (fun _ k=>ρ B k) (famH 0 res.fam) (Xo X (fun _ k=>ρ B k) (famH 0 res.fam)) W (b6 0 x) l:=jI (c:=bz B) (fun _ _ _ _ _ _ h=>h.1) (nM 0) fun x l hn L A=>by
  cases x with
  |fn=>cases hn
  |p x=>exact bO.weaken (fun b _ hb=>aa b hb) A
  |sl x k a4 len=>
   have L:x=B:=L;subst L;obtain⟨o,D,R,g3⟩:=A;have h6:x<=4999:=h5.resolve_right fun h=>by rw[h]at D;simp at D
   exact⟨renO 0 o,by simp[famH,K,D],by simpa[renO] using R,rW (ρ':=fun _ k=>ρ x k) (a':=0) (r':=k) h6 g3 rfl⟩
  |ptr x k i j=>
   have L:x=B:=L;subst L;obtain⟨o,b,g,D,R,g3,g4⟩:=A;exact⟨renO 0 o,b,g,by simp[famH,K,D],R,by simpa[renO] using g3,g4⟩
  |junk=>trivial
 have Z: ∃Y:Rho,Inv w (fun _=>False) X (famH 0 res.fam) Y W/\res.r.rel Y (famH 0 res.fam) (Xo X Y (famH 0 res.fam)) W v:=by
  refine⟨fun _ k=>ρ B k,⟨q.keep,fun x k o m=>?_,fun x k x' k' o I b g c' m ah ac a2=>?_,fun x k o b g m ac=>?_,q.bar,fun x k o m=>?_⟩,?_⟩
  ·have:=U x k o m;subst this;obtain⟨I,D,rfl⟩:=hF k o m;obtain⟨z1,z2,z3⟩:=q.objs B k I D;refine⟨fun e M=>?_,z2,?_⟩
   ·simp only[renO,XR]at M;obtain⟨e',J,rfl⟩:=M;rw[YB];exact z1 e' J
   cases S:ρ B k with
   |none=>rw[S]at z3;simp only[S];simp[renO,z3]
   |some bc=>
    obtain⟨b,n⟩:=bc;rw[S]at z3;obtain⟨cells,p1,p2,p3,p4,p5⟩:=z3;simp only[S];refine⟨cells,p1,p2,by simpa[renO] using p3,p4,fun i e j z M U=>?_⟩;simp only[renO,XK]at M;obtain⟨e',J,rfl⟩:=XI.1 M;rw[XK]at U;obtain⟨z',af,rfl⟩:=XI.1 U;obtain⟨l,u1,V,u3⟩:=p5 i e' j z' J af;exact⟨l,u1,V,E z' l (q.self B k I D e' (XH J) z' (XH af)) u3⟩
  ·have e1:=U x k o m;have e2:=U x' k' I ah;subst e1 e2;obtain⟨o1,D,_⟩:=hF k o m;obtain⟨o2,R,_⟩:=hF k' I ah;exact⟨rfl,(q.inj B k B k' o1 o2 b g c' D R ac a2).2⟩
  ·have e1:=U x k o m;subst e1;obtain⟨o1,D,_⟩:=hF k o m;exact q.old B k o1 b g D ac
  ·have e1:=U x k o m;subst e1;obtain⟨o1,D,rfl⟩:=hF k o m;intro e M z a1;simp only[renO,XR]at M;obtain⟨e',J,rfl⟩:=M;simp only[XR]at a1;obtain⟨z',af,rfl⟩:=a1;exact dj _ _
  rw[hr];have agg: ∀Q l,(∀x∈Q,bz B x)->bC ρ s2.H (Xo X ρ s2.H) W Q l->bC (fun _ k=>ρ B k) (famH 0 res.fam) (Xo X (fun _ k=>ρ B k) (famH 0 res.fam)) W (Q.map (b6 0)) l:=fun Q l L h=>by
   obtain⟨us,F,h2,h3⟩:=h;refine⟨us,F,by simpa using h2,fun j x A=>?_⟩;rw[XK]at A;obtain⟨y,N,rfl⟩:=XI.1 A;obtain⟨u',u1,V,u3⟩:=h3 j y N;exact⟨u',u1,V,E _ _ (L y (XH N)) u3⟩
  cases r with
  |one x=>exact E x v C v2
  |agg Q=>exact agg Q v C v2
  |fn u Q=>obtain⟨l,F,h2⟩:=v2;exact⟨l,agg Q l C F,h2⟩
  |tup ts=>
   obtain⟨us,F,h2,h3⟩:=v2;refine⟨us,F,by simpa using h2,fun j b Q A=>?_⟩;rw[XK]at A;obtain⟨y,N,av⟩:=XI.1 A;obtain⟨b',ag⟩:=y;simp at av;obtain⟨rfl,rfl⟩:=av;obtain⟨l,u1,V⟩:=h3 j b' ag N;have L:=C (b',ag) (XH N);refine⟨l,u1,?_⟩;rcases V with⟨V,u3⟩|⟨V,x,rfl,u4⟩
   ·exact .inl ⟨V,agg _ _ L u3⟩
   exact .inr ⟨V,_,rfl,E _ _ (L x (by simp)) u4⟩
 rcases M with rfl|rfl
 ·exact⟨F,v,v1,v,rfl,Z⟩
 exact⟨F,v,v1,v,rfl,Z⟩
theorem eD {args:List TV} {res:CallRes} (m:P.funcs[u]?=some C) (l:C.body=some g) (b:callable P u=true) (h:bs P g (fun e s=>(e= .normal\/e= .ret)/\ ∃j,bv s j/\mB P C res j) ⟨args++List.replicate (C.ntmps-args.length) .undef,fun _=>[]⟩):CallC P u args res:=
 ⟨b,fun X w vs=>(Eg (fun _=>True) m l b (fun w0 X a _ r=>h w0 _ X a w0 r) w trivial).2 X vs⟩
end
end
end Go.Proofs.YtalmoejhjceflaaGreat
