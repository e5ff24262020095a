/-
  Part 5 of a proof (walks and plain facts).
-/
import Derived.Test.YtalmoejhjceflaaGreatR03
set_option linter.all false
set_option maxRecDepth 100000
set_option maxHeartbeats 64000000
namespace Go.Proofs.YtalmoejhjceflaaGreat
open Go.RowKit
variable {b c:Nat->Prop} {e:Exit->Act->World->Prop} {f:Act->World->Prop} {g h:Code} {j:Value} {s l:AS} {m:List Value} {n:Nat} {o:Operand} {p:Oper} {q:TV} {r:List Nat} {t:List OObj} {u:FuncId} {v:Rho} {w:OH} {x:List (List AV)} {y:Array Oper} {z:Call} {A:OObj} {B:Func} {C:AV}
section
section
variable {P:Program} {w0 w w':World} {O X:Nat->Prop} {ρ:Rho} {H:OH}
theorem Sd {l:List Value} {elems:List (List AV)} {R:AV->Value->Prop} (s:m.length=elems.length*n) (q: ∀e∈elems,e.length=n) (o: ∀(i:Nat) e (j:Nat) b,elems[i]?=some e->e[j]?=some b-> ∃u:Value,m[i*n+j]?=some u/\u.oneCell'=true/\R b u) (p: ∀(i:Nat) e (j:Nat) b,x[i]?=some e->e[j]?=some b-> ∃u:Value,l[i*n+j]?=some u/\u.oneCell'=true/\R b u):
  ∀(i:Nat) e (j:Nat) b,(elems++x)[i]?=some e->e[j]?=some b-> ∃u:Value,(m++l)[i*n+j]?=some u/\u.oneCell'=true/\R b u:=by
 intro i e j b f c;by_cases r:i<elems.length
 ·rw[aal r]at f;obtain⟨u,g,h⟩:=o i e j b f c;exact⟨u,by rw[aal (aaf.1 g).1];exact g,h⟩
 rw[aap (by omega)]at f;obtain⟨u,g,h⟩:=p _ e j b f c;refine⟨u,?_,h⟩;have t:elems.length*n<=i*n:=aat _ (by omega);rw[aap (by omega),s,<- g]
 congr 1
 rw[Nat.mul_sub_right_distrib];omega
theorem Jz {A:OH} {a f:Nat} {o:OObj} (p:w'.ownsRow 0 o.ty o.es j f m) (R:o.elems.length=f) (y:0<o.es) (t: ∀e∈o.elems,e.length=o.es) (h: ∀(i:Nat) e (c:Nat) x,o.elems[i]?=some e->e[c]?=some x-> ∃u:Value,m[i*o.es+c]?=some u/\u.oneCell'=true/\x.rel v A b w' u) (K:v a n=none->j= .slice none 0 0) (q: ∀g cap cur,j= .slice (some ⟨g,0,none⟩) f cap->w'.heap[g]?=some (.cells cur o.ty (0,0))->v a n=some (g,cap)) (l:j= .slice none 0 0->v a n=none):objRel v A b w' a n o:=by
 refine⟨t,y,?_⟩;obtain⟨Q,C⟩:=p;rcases C with⟨z,N⟩|⟨g,cap,cur,z,_,B,F,E,G,I⟩
 ·rw[l z];exact abC.1 (by omega)
 rw[q g cap cur z B];refine⟨cur,B,G,by omega,E,fun i e c x D J=>?_⟩;obtain⟨u,s,L,M⟩:=h i e c x D J;refine⟨u,?_,L,M⟩;rw[<- I,aaH]at s;split at s
 ·simpa using s
 cases s
theorem JA {l:OH} {Y':Nat->Prop} {a b:Nat} {o:OObj} (e:w'.ownsRow 0 o.ty o.es j b m) (y:o.elems.length=b) (u:(l a)[n]?=some o) (h: ∀g cap cur,j= .slice (some ⟨g,0,none⟩) b cap->w'.heap[g]?=some (.cells cur o.ty (0,0))->v a n=some (g,cap)) (c:j= .slice none 0 0->v a n=none):AV.rel v l Y' w' (.sl a n 0 b) j:=by
 refine⟨o,u,by omega,?_⟩;obtain⟨x,s⟩:=e;rcases s with⟨f,q⟩|⟨g,cap,cur,f,_,t,p,_⟩
 ·exact .inl ⟨c f,f,q,rfl⟩
 exact .inr ⟨g,cap,cap,h g cap cur f t,by rw[f,ab2],by omega,fun _=>rfl⟩
def valρ:Value->Option (Nat×Nat)
 | .slice (some a) _ cap=>some (a.block,cap)
 |_=>none
theorem xk (h:w.grownBy w' none):Ext w w':=⟨h.os,h.tape,h.output,h.size,fun k b=>h.block k b (by simp)⟩
theorem FL {v:Act} (V:v.defers=[]) (K:v.tmps.size=s.tmps.length) (A:Inv w0 O X s.H ρ w) (L:aX X ρ s v w) {d:Nat} {e:TypeId} {vs:Value} (U:s.H d=[]) (J:0<n) (I: ∀l∈x,l.length=n) (F:Is ρ s.H (Xo X ρ s.H) w vs x n m) (p:w'.ownsRow 0 e n j x.length m) (W:w.grownBy w' none) (T:j.ownBlock=none\/j.ownBlock=some w.heap.size):
  da w0 O X (AS.put ⟨s.tmps,aw s.H d [⟨e,n,x⟩]⟩ (some d) (.one (.sl d 0 0 x.length))) (v.put (some d) j) w':=by
 obtain⟨_,aa,_,Z,D⟩:=F;have z:=xk W;have M: ∀g c,valρ j=some (g,c)->g=w.heap.size:=fun g c h=>by
  rcases p.2 with⟨q,_⟩|⟨R,cap,cur,q,_⟩
  ·rw[q]at h;cases h
  rw[q]at h T;simp[valρ]at h;simp[Value.ownBlock]at T;omega
 have B: ∀(r b G:Nat),(if r=0 then valρ j else none)=some (b,G)->w.heap.size<=b:=fun r b G h=>by
  split at h
  ·have:=M b G h;omega
  cases h
 have t: ∀(g cap:Nat) (cur:Array Value),j= .slice (some ⟨g,0,none⟩) x.length cap->w'.heap[g]?=some (.cells cur e (0,0))->newρ ρ d (fun r=>if r=0 then valρ j else none) d 0=some (g,cap):=fun g cap cur q _=>by
  rw[newρ_eq,if_pos rfl,q];rfl
 have C:j= .slice none 0 0->newρ ρ d (fun r=>if r=0 then valρ j else none) d 0=none:=fun q=>by rw[newρ_eq,if_pos rfl,q];rfl
 refine BG V K A L z U (fun r=>if r=0 then valρ j else none) B (fun r r' b c G h S=>?_) (fun r o E=>?_) (fun r o E=>?_) ?_
 ·split at h
  ·split at S
   ·omega
   cases S
  cases h
 ·cases r with
  |succ r=>simp at E
  |zero=>simp at E;subst E;exact fun l N y Q=>cG (Z l N y Q)
 ·cases r with
  |succ r=>simp at E
  |zero=>
   simp at E;subst E;refine Jz (o:=⟨e,n,x⟩) p rfl J I (fun i l f y N Q=>?_) (fun h=>?_) t C
   ·obtain⟨u,u1,u2,u3⟩:=D i l f y N Q;exact⟨u,u1,u2,jH A z U B u3⟩
   rcases p.2 with⟨q,_⟩|⟨R,cap,cur,q,_,Y,_⟩
   ·exact q
   rw[t R cap cur q Y]at h;cases h
 exact JA (Y':=Xo X (newρ ρ d (fun r=>if r=0 then valρ j else none)) (aw s.H d [⟨e,n,x⟩])) (o:=⟨e,n,x⟩) p rfl (by rw[aM];rfl) t C
theorem FM {a9:Act} (t:Inv w0 O X s.H ρ w) (br:aX X ρ s a9 w) {a:Nat} {us:List Value} {vs v':Value} (ho:(s.H a)[n]?=some A) (bl: ∀q∈x,q.length=A.es) (bw: ∀(i:Nat) e (l:Nat) q,A.elems[i]?=some e->e[l]?=some q-> ∃u:Value,m[i*A.es+l]?=some u/\u.oneCell'=true/\q.rel ρ s.H (Xo X ρ s.H) w u) (bt:m.length=A.elems.length*A.es) (ap:j.ownBlock=(ρ a n).map (·.1)) (bb:Is ρ s.H (Xo X ρ s.H) w vs x A.es us) (ac:w'.ownsRow 0 A.ty A.es v' (A.elems.length+x.length) (m++us)) (hg:w.grownBy w' j.ownBlock) (S:v'.ownBlock=j.ownBlock\/v'.ownBlock=some w.heap.size):
  let k:Nat->Nat->Bool:=fun q y=>q==a&&y==n
  let U:=aw s.H a (((s.H a).map (jC k)).set n {A with elems:=A.elems++x})
  (∀e∈A.elems,∀q∈e,isPure q=true)->
  ∃E,Inv w0 O X U E w'/\aX X E ⟨s.tmps.map (aP k),U⟩ a9 w'/\AV.rel E U (Xo X E U) w' (.sl a n 0 (A.elems.length+x.length)) v':=by
 intro k U bn;obtain⟨_,bR,_,hp,a5⟩:=bb;obtain⟨q1,q2,q3⟩:=t.objs a n A ho;have bq:n<(s.H a).length:=(aaf.1 ho).1;have W: ∀r':Nat,(U a)[r']?=if r'=n then some {A with elems:=A.elems++x}else((s.H a)[r']?).map (jC k):=fun r'=>by
  show(aw _ _ _ a)[r']?=_;rw[aM];by_cases M:r'=n
  ·subst M;rw[if_pos rfl,aa7];simp[bq]
  rw[if_neg M,aaI (abD M),u9]
 have a0: ∀a',a'≠a->U a'=s.H a':=fun a' ha=>aD ha
 generalize a4:(fun q y=>if q=a/\y=n then valρ v' else ρ q y:Rho)=E;have R:E a n=valρ v':=by rw[<- a4];exact if_pos ⟨rfl,rfl⟩
 have G: ∀q y,¬(q=a/\y=n)->E q y=ρ q y:=fun q y h=>by rw[<- a4];exact if_neg h
 have ad: ∀g c,valρ v'=some (g,c)->(∃c0,ρ a n=some (g,c0))\/g=w.heap.size:=fun g c h=>by
  rcases ac.2 with⟨hv,_⟩|⟨g',cap,cur,hv,_⟩
  ·rw[hv]at h;cases h
  rw[hv]at h S;simp[valρ]at h;rcases S with S|S
  ·left;rw[ap]at S;cases M:ρ a n with
   |none=>rw[M]at S;simp[Value.ownBlock]at S
   |some T=>
    obtain⟨b0,c0⟩:=T;rw[M]at S;simp[Value.ownBlock]at S;exact⟨c0,by rw[<- h.1,S]⟩
  right;simp[Value.ownBlock]at S;omega
 -- a ah row of U other than (a, n) is one of H, killed or not
 have K: ∀(q y:Nat) F,(U q)[y]?=some F-> ¬(q=a/\y=n)-> ∃J,(s.H q)[y]?=some J/\F.ty=J.ty/\F.es=J.es/\F.elems.length=J.elems.length/\(F=J/\q≠a\/F=jC k J):=fun q y F C a6=>by
  by_cases hx:q=a
  ·subst hx;rw[W,if_neg (fun h=>a6 ⟨rfl,h⟩)]at C;obtain⟨J,L,V⟩:=u6.1 C;exact⟨J,L,by rw[<- V];rfl,by rw[<- V];rfl,by rw[<- V];simp[jC],.inr V.symm⟩
  rw[a0 q hx]at C;exact⟨F,C,rfl,rfl,rfl,.inl ⟨rfl,hx⟩⟩
 have ah: ∀(q y:Nat) F,(s.H q)[y]?=some F-> ¬(q=a/\y=n)-> ∃J,(U q)[y]?=some J/\J.es=F.es/\J.elems.length=F.elems.length:=fun q y F C a6=>by
  by_cases hx:q=a
  ·subst hx;refine⟨jC k F,?_,rfl,by simp[jC]⟩;rw[W,if_neg (fun h=>a6 ⟨rfl,h⟩),C];rfl
  exact⟨F,by rw[a0 q hx];exact C,rfl,rfl⟩
 have an: ∀b,b<w.heap.size->Xo X E U b->Xo X ρ s.H b:=fun b S hX=>by
  rcases hX with hX|⟨q,y,F,c,L,V⟩
  ·exact .inl hX
  by_cases D:q=a/\y=n
  ·obtain⟨rfl,rfl⟩:=D;rw[R]at V;rcases ad b c V with⟨c0,aa⟩|hh
   ·exact .inr ⟨q,y,A,c0,ho,aa⟩
   omega
  obtain⟨J,k1,_⟩:=K q y F L D;rw[G q y D]at V;exact .inr ⟨q,y,J,c,k1,V⟩
 have mono: ∀q j,AV.rel ρ s.H (Xo X ρ s.H) w q j->AV.rel E U (Xo X E U) w' (aN k q) j:=gk (mO k) fun q u hn hx=>by
  cases q with
  |fn=>cases hn
  |p q=>
   have Y:bQ (fun b=>Xo X ρ s.H b\/Xo X E U b) w q u:=bQ.weaken (fun b S Q=>Q.elim id (an b S)) hx;have z2:bQ (fun b=>Xo X ρ s.H b\/Xo X E U b) w' q u:=bQ.stays ⟨hg.size,fun p z hp Q=>by
    have bm:=vg Q;unfold World.cell? at Q⊢;rw[hg.block _ bm (fun B=>?_)]
    ·exact Q
    apply hp;left;rw[ap]at B;cases M:ρ a n with
    |none=>rw[M]at B;cases B
    |some T=>
     rw[M]at B;simp at B;exact .inr ⟨a,n,A,T.2,ho,by rw[M,B]⟩⟩ Y
   exact bQ.weaken (fun b _ Q=> .inr Q) z2
  |sl q y bh len=>
   simp only[aN];by_cases D:q=a/\y=n
   ·obtain⟨rfl,rfl⟩:=D;simp[k];trivial
   have:k q y=false:=by simp[k];omega
   simp only[this,aa5,if_false];obtain⟨F,Z,h2,h3⟩:=hx;obtain⟨J,L,V,g3⟩:=ah q y F Z D;exact⟨J,L,by omega,by rw[G q y D,V];exact h3⟩
  |ptr q y i l=>
   simp only[aN];by_cases D:q=a/\y=n
   ·obtain⟨rfl,rfl⟩:=D;simp[k];trivial
   have:k q y=false:=by simp[k];omega
   simp only[this,aa5,if_false];obtain⟨F,b,c,Z,h2,h3,h4⟩:=hx;obtain⟨J,L,V,g3⟩:=ah q y F Z D;exact⟨J,b,c,L,by rw[G q y D];exact h2,by omega,by rw[V];exact h4⟩
  |junk=>trivial
 have al: ∀q j,isPure q=true->AV.rel ρ s.H (Xo X ρ s.H) w q j->AV.rel E U (Xo X E U) w' q j:=fun q u bp hx=>by
  have:=mono q u hx;cases q<;>first|exact this|cases bp
 have a3:v'= .slice none 0 0->E a n=none:=fun hv=>by rw[R,hv];rfl
 have ag: ∀(g cap:Nat) (cur:Array Value),v'= .slice (some ⟨g,0,none⟩) (A.elems.length+x.length) cap->w'.heap[g]?=some (.cells cur A.ty (0,0))->E a n=some (g,cap):=fun g cap cur hv _=>by rw[R,hv];rfl
 have a2:(A.elems++x).length=A.elems.length+x.length:=by simp
 have bx: ∀T,ρ a n=some T->T.1<w.heap.size:=fun T h=>bf (t.objs a n A ho) (b:=T.1) (c:=T.2) h
 refine⟨E,⟨?_,fun q y F C=>?_,fun q y x' y' F J b c c' C ba N ab=>?_,fun q y F b c C N=>?_,fun b S=>aas (t.bar b S) hg.size,fun q y F C=>?_⟩,Bq br mono,?_⟩
 ·refine⟨hg.os.trans t.keep.os,hg.tape.trans t.keep.tape,hg.output.trans t.keep.output,aaj t.keep.size hg.size,fun l hj hO=>?_⟩;rw[hg.block l (aas hj t.keep.size) (fun B=>?_)]
  ·exact t.keep.block l hj hO
  rw[ap]at B;cases M:ρ a n with
  |none=>rw[M]at B;cases B
  |some T=>
   rw[M]at B;simp at B;rcases(t.old a n A T.1 T.2 ho M).1 with h|h
   ·omega
   exact hO (B▸h)
 ·by_cases D:q=a/\y=n
  ·obtain⟨rfl,rfl⟩:=D;rw[W,if_pos rfl]at C;injection C with C
   subst C;refine Jz (o:={A with elems:=A.elems++x}) ac a2 q2 (fun e I=>?_) (Sd bt q1 (fun i e l z I Q=>?_) (fun i e l z I Q=>?_)) (fun h=>?_) ag a3
   ·rcases abe.1 I with I|I
    ·exact q1 e I
    exact bl e I
   ·obtain⟨u,u1,u2,u3⟩:=bw i e l z I Q;exact⟨u,u1,u2,al z u (bn e (u5 I) z (u5 Q)) u3⟩
   ·obtain⟨u,u1,u2,u3⟩:=a5 i e l z I Q;exact⟨u,u1,u2,al z u (hp e (u5 I) z (u5 Q)) u3⟩
   rcases ac.2 with⟨hv,_⟩|⟨g',cap,cur,hv,_,hh,_⟩
   ·exact hv
   rw[ag g' cap cur hv hh]at h;cases h
  obtain⟨J,L,V,g3,g4,g5⟩:=K q y F C D;have a1: ∀b c,ρ q y=some (b,c)->w'.heap[b]?=w.heap[b]?:=fun b c S=>hg.block b (bf (t.objs q y J L) S) (fun B=>by
   rw[ap]at B;cases M:ρ a n with
   |none=>rw[M]at B;cases B
   |some T=>
    rw[M]at B;simp at B;exact D (t.inj q y a n J A b c T.2 L ho S (by rw[M,B])))
  rcases g5 with⟨rfl,b1⟩|rfl
  ·have a7:=t.self q y F L;obtain⟨Y,z2,z3⟩:=t.objs q y F L;refine⟨Y,z2,?_⟩;rw[G q y D];cases M:ρ q y with
   |none=>rw[M]at z3;exact z3
   |some T=>
    obtain⟨b,c⟩:=T;rw[M]at z3;obtain⟨cells,p1,p2,p3,p4,p5⟩:=z3;refine⟨cells,by rw[a1 b c M];exact p1,p2,p3,p4,fun i e l z I Q=>?_⟩;obtain⟨u,u1,u2,u3⟩:=p5 i e l z I Q;refine⟨u,u1,u2,?_⟩;have hs:=a7 e (u5 I) z (u5 Q);have:=mono z u u3;cases z with
    |sl Y z2 bh len=>have hs:Y=q:=hs;have:k Y z2=false:=(by simp[k];omega);rename_i hm;simpa[aN,this] using hm
    |ptr Y z2 i l=>have hs:Y=q:=hs;have:k Y z2=false:=(by simp[k];omega);rename_i hm;simpa[aN,this] using hm
    |p z=>exact this
    |fn f Y qs=>have hs:Y=q:=hs.1;have: ∀y,k Y y=false:=(fun y=>by simp[k];omega);rename_i hm;simpa[aN,this] using hm
    |junk=>trivial
  obtain⟨Y,z2,z3⟩:=t.objs q y J L;refine⟨fun e I=>?_,z2,?_⟩
  ·simp only[jC,aai]at I;obtain⟨e',af,rfl⟩:=I;rw[aa0];exact Y e' af
  rw[G q y D];cases M:ρ q y with
  |none=>rw[M]at z3;simp[jC,z3]
  |some T=>
   obtain⟨b,c⟩:=T;rw[M]at z3;obtain⟨cells,p1,p2,p3,p4,p5⟩:=z3;refine⟨cells,by rw[a1 b c M];exact p1,p2,by simpa[jC] using p3,p4,fun i e l z I Q=>?_⟩;simp only[jC,u9]at I;obtain⟨e',af,rfl⟩:=u6.1 I;rw[u9]at Q;obtain⟨z',a8,rfl⟩:=u6.1 Q;obtain⟨u,u1,u2,u3⟩:=p5 i e' l z' af a8;exact⟨u,u1,u2,mono z' u u3⟩
 ·by_cases Z:q=a/\y=n
  ·obtain⟨rfl,rfl⟩:=Z;by_cases h2:x'=q/\y'=y
   ·omega
   exfalso;rw[R]at N;rw[G x' y' h2]at ab;obtain⟨av,L,_⟩:=K x' y' J ba h2;rcases ad b c N with⟨c0,aa⟩|hh
   ·have:=t.inj x' y' q y av A b c' c0 L ho ab aa;omega
   have:=bf (t.objs x' y' av L) ab;omega
  by_cases h2:x'=a/\y'=n
  ·exfalso;obtain⟨rfl,rfl⟩:=h2;rw[R]at ab;rw[G q y Z]at N;obtain⟨ae,L,_⟩:=K q y F C Z;rcases ad b c' ab with⟨c0,aa⟩|hh
   ·have:=t.inj q y x' y' ae A b c c0 L ho N aa;omega
   have:=bf (t.objs q y ae L) N;omega
  rw[G q y Z]at N;rw[G x' y' h2]at ab;obtain⟨ae,L,_⟩:=K q y F C Z;obtain⟨av,V,_⟩:=K x' y' J ba h2;exact t.inj q y x' y' ae av b c c' L V N ab
 ·by_cases Z:q=a/\y=n
  ·obtain⟨rfl,rfl⟩:=Z;rw[R]at N;rcases ad b c N with⟨c0,aa⟩|hh
   ·exact t.old q y A b c0 ho aa
   have:=t.keep.size;exact⟨.inl (by omega),fun hX=>by have:=t.bar b hX;omega⟩
  rw[G q y Z]at N;obtain⟨ae,L,_⟩:=K q y F C Z;exact t.old q y ae b c L N
 ·by_cases Z:q=a/\y=n
  ·obtain⟨rfl,rfl⟩:=Z;rw[W,if_pos rfl]at C;injection C with C
   subst C;intro e I z Q;rcases abe.1 I with I|I
   ·exact t.self q y A ho e I z Q
   exact cG (hp e I z Q)
  obtain⟨J,L,V,g3,g4,g5⟩:=K q y F C Z;rcases g5 with⟨rfl,_⟩|rfl
  ·exact t.self q y F L
  intro e I z Q;simp only[jC,aai]at I;obtain⟨e',af,rfl⟩:=I;simp only[aai]at Q;obtain⟨z',a8,rfl⟩:=Q;have:=t.self q y J L e' af z' a8;cases z' with
  |sl Y z2 bh len=>simp only[aN];split;trivial;exact this
  |ptr Y z2 i l=>simp only[aN];split;trivial;exact this
  |fn f Y qs=>simp only[aN];split;trivial;exact this
  |p z=>trivial
  |junk=>trivial
 exact JA (o:={A with elems:=A.elems++x}) ac a2 (by rw[W,if_pos rfl]) ag a3
end
end
section
section
variable {P:Program} {w0 w w':World} {O X:Nat->Prop} {ρ:Rho} {H:OH}
theorem j5 (x:AV):aN (fun _ _=>false) x=x:=by cases x<;>simp[aN]
theorem mN (t:TV):aP (fun _ _=>false) t=t:=by
 cases t with
 |one x=>simp[aP,j5]
 |agg b=>simp only[aP];congr 1;rw[show aN (fun _ _=>false)=id from funext j5];simp
 |fn f b=>simp only[aP];congr 1;rw[show aN (fun _ _=>false)=id from funext j5];simp
 |tup c=>simp only[aP];congr 1;rw[show aN (fun _ _=>false)=id from funext j5];simp
theorem ja (l:List TV):l.map (aP fun _ _=>false)=l:=by
 rw[show aP (fun _ _=>false)=id from funext mN];simp
theorem vu {d:Nat} {n:Rho} {u:OH} (y: ∀(r:Nat) o,t[r]?=some o->(u d)[r]?=some (renO d o)/\n d r=v 0 r) (A: ∀e,e<w.heap.size->c e->Xo b v (famH 0 t) e) (h:C.rel v (famH 0 t) (Xo b v (famH 0 t)) w j):(bY d C).rel n u c w j:=by
 refine gk (mb d) (fun C j B h=>?_) C j h;cases C with
 |fn=>cases B
 |p C=>exact bQ.weaken A h
 |sl a r D len=>
  obtain⟨o,l,q,s⟩:=h;by_cases m:a=0
  ·subst m;obtain⟨f1,f2⟩:=y r o l;exact⟨renO d o,f1,by simpa[renO] using q,nf (by decide) s f2⟩
  simp[famH,m]at l
 |ptr a r i g=>
  obtain⟨o,e,f,l,q,s,z⟩:=h;by_cases m:a=0
  ·subst m;obtain⟨f1,f2⟩:=y r o l;exact⟨renO d o,e,f,f1,by rw[f2];exact q,by simpa[renO] using s,z⟩
  simp[famH,m]at l
 |junk=>trivial
theorem o7 {s:OH} {d:Nat} (h:q.rel ρ H b w j) (B: ∀x j,x.rel ρ H b w j->AV.rel v s c w' (bY d x) j):(renTV d q).rel v s c w' j:=by
 have agg: ∀l j,bI ρ H b w l j->bI v s c w' (l.map (bY d)) j:=fun l j h=>by
  obtain⟨vs,n,o,A⟩:=h;refine⟨vs,n,by simpa using o,fun g x p=>?_⟩;rw[u9]at p;obtain⟨y,C,rfl⟩:=u6.1 p;obtain⟨u,D,m,E⟩:=A g y C;exact⟨u,D,m,B _ _ E⟩
 cases q with
 |one x=>exact B _ _ h
 |agg l=>exact agg l j h
 |fn f l=>obtain⟨u,n,o⟩:=h;exact⟨u,agg l u n,o⟩
 |tup I=>
  obtain⟨vs,n,o,A⟩:=h;refine⟨vs,n,by simpa using o,fun g e l p=>?_⟩;rw[u9]at p;obtain⟨y,C,r⟩:=u6.1 p;obtain⟨F,z⟩:=y;simp at r;obtain⟨rfl,rfl⟩:=r;obtain⟨u,D,m⟩:=A g F z C;refine⟨u,D,?_⟩;rcases m with⟨m,E⟩|⟨m,x,rfl,G⟩
  ·exact .inl ⟨m,agg _ _ E⟩
  exact .inr ⟨m,_,rfl,B _ _ G⟩
theorem LI (c:isPure C=true) (h:C.rel ρ H b w j):bQ b w (vO C) j:=by
 cases C<;>first|exact h|cases c
theorem Ag {own:Bool} (V: ∀(a r:Nat) (o:OObj),(H a)[r]?=some o->objRel ρ H b w a r o) (hZ: ∀g,c g->b g) (S:own=true-> ∀(a r:Nat) (o:OObj) (g l:Nat),(H a)[r]?=some o->ρ a r=some (g,l)-> ¬c g) (h:q.rel ρ H b w j) (y:dV own H q=true):
  (ib H q).rel (fun _ _=>none) (fun _=>[]) c w j:=by
 have wk: ∀x u,bQ b w x u->bQ c w x u:=fun x u h=>bQ.weaken (fun g _ hb=>hZ g hb) h
 unfold dV at y;split at y
 ·rename_i a r n len;simp only[aaF]at y;obtain⟨U,y⟩:=y;obtain⟨o,K,g2,g3⟩:=h;rw[K]at y;simp only[aah]at y;simp only[ib,K];show bQ _ _ _ _;obtain⟨q1,q2,q3⟩:=V a r o K;have T:(((o.elems.take (n+len)).drop n).map (List.map vO)).length=len:=by simp;omega
  rcases g3 with⟨M,L,gl,go⟩|⟨g,l,cap,M,L,aa,_⟩
  ·rw[abC.1 (T.trans gl),L];exact bQ.nil _ _
  by_cases F:len=0
  ·rw[abC.1 (T.trans F),L,F];exact bQ.nil _ _
  rw[M]at q3;obtain⟨cells,p1,p2,p3,p4,p5⟩:=q3;have G: ∀(i:Nat) e,(((o.elems.take (n+len)).drop n).map (List.map vO))[i]?=some e-> ∃C,o.elems[n+i]?=some C/\e=C.map vO:=fun i e B=>by
   rw[u9]at B;obtain⟨C,p,rfl⟩:=u6.1 B;rw[aaN,aaH]at p;split at p
   ·exact⟨C,p,rfl⟩
   cases p
  have A: ∀(i:Nat) e (m:Nat) x,(((o.elems.take (n+len)).drop n).map (List.map vO))[i]?=some e->e[m]?=some x-> ∃u:Value,cells[(n+i)*o.es+m]?=some u/\bQ c w x u:=fun i e m x B z=>by
   obtain⟨C,p,rfl⟩:=G i e B;rw[u9]at z;obtain⟨x',I,rfl⟩:=u6.1 z;obtain⟨u,D,E,J⟩:=p5 _ C m x' p I;exact⟨u,D,wk _ _ (LI (y C (u5 p) x' (u5 I)) J)⟩
  rw[L];have:=bQ.sl (X:=c) (w:=w) g (n*o.es) o.es cap (((o.elems.take (n+len)).drop n).map (List.map vO)) (fun i m=>(cells[(n+i)*o.es+m]?).getD undef) (S U a r o g l K M) (aan.1 p1).1
   (fun e B=>by
    simp only[aai]at B;obtain⟨C,p,rfl⟩:=B;rw[aa0];exact q1 C (abr (abq p))) (by omega) (by omega)
   (fun i e m x B z=>by
    obtain⟨u,D,_⟩:=A i e m x B z;rw[cell_of_row _ g _ cells o.ty (0,0) p1,<- abg,D];rfl)
   (fun i e m x B z=>by
    obtain⟨u,D,E⟩:=A i e m x B z;simp only[D,abh];exact E)
  rw[T]at this;exact this
 ·rename_i x;unfold ib;split
  ·rename_i s;cases s
  ·rename_i s;injection s with s
   injection s with s
   subst s;have:=(aV h).1;subst this;exact bQ.nil _ _
  exact wk _ _ h
 ·rename_i cs;simp only[aah]at y;obtain⟨vs,N,Q,R⟩:=h;refine⟨vs,N,Q,fun m x z=>?_⟩;obtain⟨u,D,E,J⟩:=R m x z;refine⟨u,D,E,?_⟩;have W:=y x (u5 z);cases x<;>first|exact wk _ _ J|cases W
 ·rename_i f cs;simp only[aah]at y;obtain⟨u0,⟨vs,N,Q,R⟩,h4⟩:=h;refine⟨u0,⟨vs,N,Q,fun m x z=>?_⟩,h4⟩;obtain⟨u,D,E,J⟩:=R m x z;refine⟨u,D,E,?_⟩;have W:=y x (u5 z);cases x<;>first|exact wk _ _ J|cases W
 cases y
theorem rm {own:Bool} (g: ∀(a r:Nat) (o:OObj),(H a)[r]?=some o->objRel ρ H b w a r o) (l: ∀e,c e->b e) (f:own=true-> ∀e,¬c e) (h:q.rel ρ H b w j) (m:dV own H q=true):
  (ib H q).rel (fun _ _=>none) (fun _=>[]) c w j:=
 Ag g l (fun h _ _ _ e _ _ _=>f h e) h m
end
end
section
section
variable {P:Program} {w0 w w':World} {O X:Nat->Prop} {ρ:Rho} {H:OH}
theorem dI:TV.rel ρ H b w .undef undef:=⟨#[],rfl,rfl,fun j c e h=>by simp at h⟩
theorem Ah {a:Nat} (h:Tk a C=true):bs a C:=by
 cases C with
 |sl b _ _ _=>have h:b=a:=(by simpa[Tk] using h);exact h
 |p C=>trivial
 |_=>cases h
theorem uA {a:Nat}: ∀{f:List AV} {e:List (Nat×Nat×Nat)},lI a f=some e->e.length=f.length/\ ∀(n:Nat) q,e[n]?=some q->f[n]?=some (.ptr a q.1 q.2.1 q.2.2)
 |[],e,h=>by simp only[lI]at h;injection h with h;subst h;exact⟨rfl,fun n q h=>by simp at h⟩
 |c::f,e,h=>by
  cases c with
  |ptr b r i j=>
   simp only[lI]at h;split at h
   ·rename_i p;subst p;obtain⟨l,s,rfl⟩:=u6.1 h;obtain⟨m,o⟩:=uA s;refine⟨by simp[m],fun n q g=>?_⟩;cases n with
    |zero=>simp at g;subst g;rfl
    |succ n=>simp at g⊢;exact o n q g
   cases h
  |_=>simp only[lI]at h;cases h
theorem Gq {a:Nat} {g:List AV} {e:List (Nat×Nat×Nat)} (y:lI a g=some e) (o:0<e.length) (h:(TV.fn u g).rel ρ H b w j):(AV.fn u a e).rel ρ H b w j:=by
 obtain⟨c,⟨vs,p,r,s⟩,t⟩:=h;subst p;obtain⟨l,m⟩:=uA y;refine⟨vs,t,r.trans l.symm,o,fun n q x=>?_⟩;obtain⟨c,z,B,A⟩:=s n _ (m n q x);exact⟨c,z,A⟩
theorem rZ {s:AS} {a:Act} (S:a.defers=[]) (E:a.tmps.size=s.tmps.length) (z:Inv w0 O X s.H ρ w) (F:aX X ρ s a w) {t:TypeId} {x:Operand} (ho:p.op= .store t o x) {r i j h:Nat} {g cs:List AV} (I:s.ev o=some (.one (.ptr n r i j))) (hn:ir P t=some h) (B:(s.H n)[r]?=some A) (he:A.elems[i]?=some g) (J:cs.length=h) (hj:j+h<=g.length) (hx:mD ρ s.H (Xo X ρ s.H) w cs (a.eval x).cells) (m: ∀y∈cs,bs n y) (hK: ∀v w',da w0 O X (AS.put ⟨s.tmps,aw s.H n ((s.H n).set r {A with elems:=A.elems.set i (putCells g j cs)})⟩ p.dst .undef) (a.put p.dst v) w'->f (a.put p.dst v) w'):p.wp P a w f e:=by
 obtain⟨aa,b,c,G,g2,g3,g4⟩:=be F o _ I;rw[B]at G;injection G with G
 subst G;obtain⟨R,U⟩:=hx;have L:(a.eval x).cells.toList.length=cs.length:=by simpa using R
 obtain⟨cells,V,W,Y,Z⟩:=Az S E z F (vs:=(a.eval x).cells.toList) (j:=j) B g2 he (by omega) L (fun k y M=>by
  obtain⟨u,q,N⟩:=U k y M;exact⟨u,by simpa using q,N⟩) m
 have C: ∀u∈(a.eval x).cells,u.oneCell'=true:=fun u hu=>by
  obtain⟨k,T,rfl⟩:=ad9 hu;obtain⟨y,M⟩:=getElem?_of_lt (l:=cs) (k:=k) (by rw[<- R];exact T);obtain⟨u,q,N,_⟩:=U k y M;rw[acZ T]at q;injection q with q
  rw[q];exact N
 have D:=uD (P:=P) (t:=t) (v:=a.eval x) (by rw[hn,R,J]) V (by simpa using W) C;unfold Oper.wp execOp;simp only[ho,g4];rw[Vi D];refine hK undef _ (eJ (ρ:=ρ) S E ?_ ?_ dI)
 ·simpa using Y
 simpa using Z
theorem Ge {a:Act} (h1:a.defers=[]) (S:a.tmps.size=s.tmps.length) (D:Inv w0 O X s.H ρ w) (E:aX X ρ s a w) {q:Fh} (h:gn P s.ev s.H p.op=some q) (Z: ∀v w',da w0 O X (AS.put ⟨s.tmps.map (aP q.k),q.H⟩ p.dst q.t) (a.put p.dst v) w'->f (a.put p.dst v) w'):p.wp P a w f e:=by
 cases ho:p.op<;>rw[ho]at h<;>simp only[gn]at h<;>try cases h
 case store t ad x=>
  split at h
  ·rename_i B r i j n I hn;split at h
   ·rename_i U G;split at h
    ·rename_i l he;split at h
     ·rename_i M r' bb len T;split at h
      ·rename_i L;subst L;split at h
       ·rename_i W;injection h with h
        subst h;simp only[ja]at Z;have J:=be E x _ T;have u:(a.eval x).oneCell'=true:=by
         obtain⟨_,_,_,V⟩:=J;rcases V with⟨_,V,_⟩|⟨_,_,_,_,V,_⟩<;>rw[V]<;>rfl
        refine rZ h1 S D E ho I hn G he (cs:=[.sl M r' bb len]) (by simp;omega) (by omega) ⟨by rw[fw u];rfl,fun k y F=>?_⟩ (fun y F=>by simp at F;subst F;rfl) Z;cases k with
        |succ k=>simp at F
        |zero=>simp at F;subst F;exact⟨a.eval x,by rw[fw u];rfl,u,J⟩
       cases h
      rename_i L;split at h
      ·rename_i o2 hH;split at h
       ·rename_i W;obtain⟨c0,c1,c2,c3,c4,c5,c6⟩:=W;injection h with h
        subst h;subst c1 c2;simp only[aah]at c6;obtain⟨m1,m2,m3⟩:=zV D (a:=B) (b:=M) c0 L hH c6;have a8:=Bq E m2;have J:=m3 _ _ _ (be E x _ T);have u:(a.eval x).oneCell'=true:=by
         obtain⟨_,_,_,V⟩:=J;rcases V with⟨_,V,_⟩|⟨_,_,_,_,V,_⟩<;>rw[V]<;>rfl
        have a4:r<(s.H B).length:=(aaf.1 G).1;have a0:aw (aw s.H B (s.H B++[o2])) M [] B=s.H B++[o2]:=by rw[aD (abD L),aM]
        have a1:AS.ev ⟨s.tmps.map (aP fun x _=>x==M),aw (aw s.H B (s.H B++[o2])) M []⟩ ad=some (.one (.ptr B r i j)):=by
         cases ad with
         |tmp k=>
          simp only[AS.ev,u9]at I⊢;rw[I];simp[aP,aN,abD L]
         |const v=>exact I
         |global g=>exact I
         |func m=>exact I
        refine rZ (s:=⟨s.tmps.map (aP fun x _=>x==M),aw (aw s.H B (s.H B++[o2])) M []⟩) (a:=a) h1 (by simpa using S) m1 a8 ho a1 hn (by show(aw (aw s.H B (s.H B++[o2])) M [] B)[r]?=some U;rw[a0,aal a4];exact G) he (cs:=[.sl B (s.H B).length 0 len]) (by simp;omega) (by omega) ⟨by rw[fw u];rfl,fun k y F=>?_⟩ (fun y F=>by simp at F;subst F;rfl) ?_
        ·cases k with
         |succ k=>simp at F
         |zero=>simp at F;subst F;exact⟨a.eval x,by rw[fw u];rfl,u,J⟩
        intro v w2 af;refine Z v w2 ?_;have e1:aw (aw (aw s.H B (s.H B++[o2])) M []) B ((aw (aw s.H B (s.H B++[o2])) M [] B).set r {U with elems:=U.elems.set i (putCells l j [.sl B (s.H B).length 0 len])})=
          aw (aw s.H B ((s.H B).set r {U with elems:=U.elems.set i (putCells l j [.sl B (s.H B).length 0 len])}++[o2])) M []:=by
         funext z;rw[a0];by_cases Y:z=B
         ·subst Y;rw[aM,aD (abD L),aM,List.set_append_left _ _ a4]
         rw[aD Y];by_cases ap:z=M
         ·subst ap;rw[aM,aM]
         rw[aD ap,aD Y,aD ap,aD Y]
        simp only[e1]at af;exact af
       cases h
      cases h
     ·rename_i m cs T;split at h
      ·rename_i qs bn;split at h
       ·rename_i W;injection h with h
        subst h;simp only[ja]at Z;have J:=Gq bn W.2.2 (be E x _ T);have u:=FQ (by simp) J;refine rZ h1 S D E ho I hn G he (cs:=[.fn m B qs]) (by simp;omega) (by omega) ⟨by rw[fw u];rfl,fun k y F=>?_⟩ (fun y F=>by simp at F;subst F;exact⟨rfl,acv W.2.2⟩) Z;cases k with
        |succ k=>simp at F
        |zero=>simp at F;subst F;exact⟨a.eval x,by rw[fw u];rfl,u,J⟩
       cases h
      cases h
     ·rename_i v hv hv2 T;split at h
      ·rename_i cs bm;split at h
       ·rename_i W;obtain⟨c1,c2,c3⟩:=W;injection h with h
        subst h;simp only[ja]at Z;simp only[aah]at c3;exact rZ h1 S D E ho I hn G he c1 c2 (jw bm (be E x _ T)) (fun y F=>Ah (c3 y F)) Z
       cases h
      cases h
     cases h
    cases h
   cases h
  cases h
 case call c=>
  obtain⟨callee,⟨args⟩,⟨argTypes⟩⟩:=c;split at h
  ·rename_i sx x t t' aa N a9;simp only at aa N a9;subst aa N a9;split at h
   ·rename_i B r bb len ba l hs T bq;split at h
    ·rename_i U z sz bc G hz a7 bh;split at h
     ·rename_i W;obtain⟨c0,rfl,rfl,rfl,c4,rfl,rfl,c7,c8,c9,av⟩:=W;injection h with h
      subst h;simp only[aah]at c4;obtain⟨tx,br,ah⟩:=aaw.1 T;have ab:=D.objs B r U G;have ae:0<U.es:=ab.2.1;obtain⟨us,ag⟩:=xz D.objs ah (be E x tx br) av ae;obtain⟨xs,ac,bx,bw⟩:=Tq c0 ab G (be E sx _ hs);obtain⟨⟨A,cc,hv,bp⟩,bt,u,b2,bl⟩:=id ag;obtain⟨ti,zv,an,b0,bR⟩:=kK hz;obtain⟨b1,C,a6⟩:=r7 a7;rw[an]at C;injection C with C;subst C
      obtain⟨b1,C,a3⟩:=wH bh;rw[an]at C;injection C with C;subst C
      obtain⟨v',w1,a5,al,hg,a2⟩:=lJ (P:=P) w 0 t p.type U.ty zv U.es bc (dH bq) (by rw[an];simp[b0,a6,a3]) (by rw[<- c9,<- bR];simp) ae _ _ xs ac A ba.length cc us bp bt u (by unfold maxLen;omega) c7 (aaW _);obtain⟨b3,i1,i2,i3⟩:=FM D E G av bx ac.1 bw ag al hg a2 (fun l he x T=>c4 l he x T);unfold Oper.wp execOp;have R:(execOp a.eval p).run P w= .ok (.value v') w1:=by
       unfold execOp;simp only[ho,resolve,invoke,builtin,aak,aaJ,aag,acI,aaC,aaR,hv,a5]
      unfold execOp at R;rw[R];exact Z v' w1 (eJ h1 (by simpa using S) i1 i2 i3)
     cases h
    cases h
   cases h
  cases h
end
end
section
section
variable {P:Program} {w0 w w':World} {O X:Nat->Prop} {ρ:Rho} {H:OH}
theorem lF {f : FuncId} (h : callable P f = true) : ∃ fn, P.funcs[f]? = some fn /\ fn.body.isNone = false /\ (fn.name == "runtime.NumGoroutine") = false := by
 unfold callable at h;split at h
 ·rename_i fn hf;simp only[aaF,Bool.not_eq_true']at h;exact⟨fn,hf,by cases hb:fn.body<;>simp_all,h.2⟩
 cases h
theorem f9 {e:Operand->Value} (n:p.op= .call z) (j:z.callee= .value (.func u)) (l:e (.func u)= .func (.func u) #[] #[]) (m:callable P u=true):
  (execOp e p).run P w= .ok (.enter u (z.args.map e)) w:=by
 obtain⟨q,b,g,h⟩:=lF m;unfold execOp;simp only[n,resolve,j,l,Deferred.ofValue,aak,aaJ,aag,invoke];unfold callFunc;simp only[aak];show Result.andThen (.ok P w) _=_;rw[aag,b];simp only[h,g,aa5,if_false]
 simp
theorem km {e:Operand->Value} {vs:Array Value} (n:p.op= .call z) (j:z.callee= .value o) (l:e o= .func (.func u) #[] vs) (m:callable P u=true):
  (execOp e p).run P w= .ok (.enter u (z.args.map e++vs)) w:=by
 obtain⟨q,b,g,h⟩:=lF m;unfold execOp;simp only[n,resolve,j,l,Deferred.ofValue,aak,aaJ,aag,invoke];unfold callFunc;simp only[aak];show Result.andThen (.ok P w) _=_;rw[aag,b];simp only[h,g,aa5,if_false]
 simp
theorem j8 {q:Option TV} {v:Value} {e:List TV} (p: ∀t,q=some t->t.rel ρ H b w v) (h:FU q=some (u,e)): ∃vs:Array Value,v= .func (.func u) #[] vs/\vs.size=e.length/\ ∀(j:Nat) t,e[j]?=some t-> ∃c:Value,vs[j]?=some c/\t.rel ρ H b w c:=by
 unfold FU at h;split at h
 ·rename_i z E;injection h with h
  injection h with h l
  subst h l;obtain⟨c,⟨vs,m,n,o⟩,C⟩:=p _ rfl;subst m;refine⟨vs,C,by simpa using n,fun j t g=>?_⟩;rw[u9]at g;obtain⟨y,r,rfl⟩:=u6.1 g;obtain⟨c,s,B,D⟩:=o j y r;exact⟨c,s,D⟩
 ·rename_i z a F;injection h with h
  injection h with h l
  subst h l;obtain⟨vs,m,n,_,o⟩:=p _ rfl;refine⟨vs,m,by simpa using n,fun j t g=>?_⟩;rw[u9]at g;obtain⟨y,r,rfl⟩:=u6.1 g;obtain⟨c,s,B⟩:=o j y r;exact⟨c,s,B⟩
 ·rename_i z first x
  split at h
  ·rename_i A;injection h with h
   injection h with h l
   subst h l;have:=(aV (p _ rfl)).1;simp only[aaF,adE]at A;obtain⟨rfl,rfl⟩:=A;exact⟨#[],this,rfl,fun j t g=>by simp at g⟩
  cases h
 cases h
theorem tC {f:OH} {d:Nat} (h:rC C=true) (l:C.rel ρ H b w j):(bY d C).rel v f c w' j:=by
 cases C with
 |p C=>
  cases C with
  |raw u=>
   obtain⟨rfl,g⟩:=aV (ρ:=ρ) (H:=H) l;exact bQ.raw _ g
  |sl o=>cases h
  |ptr n=>cases h
 |sl a r m len=>cases h
 |ptr a r i e=>cases h
 |junk=>cases h
 |fn=>cases h
theorem TD {F:OH} {d:Nat} (h:oz q=true) (B:q.rel ρ H b w j):(renTV d q).rel v F c w' j:=by
 have agg: ∀l j,l.all rC=true->bI ρ H b w l j->bI v F c w' (l.map (bY d)) j:=fun l j I h=>by
  simp only[aah]at I;obtain⟨vs,p,r,C⟩:=h;refine⟨vs,p,by simpa using r,fun g x s=>?_⟩;rw[u9]at s;obtain⟨y,z,rfl⟩:=u6.1 s;obtain⟨u,D,n,E⟩:=C g y z;exact⟨u,D,n,tC (I y (u5 z)) E⟩
 cases q with
 |one x=>exact tC h B
 |agg l=>exact agg l j h B
 |fn f l=>obtain⟨u,p,r⟩:=B;exact⟨u,agg l u h p,r⟩
 |tup K=>
  simp only[oz,aah]at h;obtain⟨vs,p,r,C⟩:=B;refine⟨vs,p,by simpa using r,fun g e l s=>?_⟩;rw[u9]at s;obtain⟨y,z,A⟩:=u6.1 s;obtain⟨G,o⟩:=y;simp at A;obtain⟨rfl,rfl⟩:=A;obtain⟨u,D,n⟩:=C g G o z;have m:=h (G,o) (u5 z);refine⟨u,D,?_⟩;rcases n with⟨n,E⟩|⟨n,x,rfl,J⟩
  ·exact .inl ⟨n,agg _ _ (by simpa only[aah] using m) E⟩
  exact .inr ⟨n,_,rfl,tC (m x (by simp)) J⟩
theorem l4 {it:cB P} {d:Nat} {a:Act} (h1:a.defers=[]) (L:a.tmps.size=s.tmps.length) (A:Inv w0 O X s.H ρ w) (M:aX X ρ s a w) (ht:renTV d it.res.r=q) (R:it.res.fam.map (renO d)=t) (hd:t≠[]->s.H d=[]) {v:Value} {w1:World} {ρc:Rho} (y:Inv w (fun _=>False) (if it.res.plain then(fun _=>False)else Xo X ρ s.H) (famH 0 it.res.fam) ρc w1) (S:it.res.r.rel ρc (famH 0 it.res.fam) (Xo (if it.res.plain then(fun _=>False)else Xo X ρ s.H) ρc (famH 0 it.res.fam)) w1 v):
  da w0 O X (iW s d q t) (a.put (some d) v) w1:=by
 have f:Ext w w1:=⟨y.keep.os,y.keep.tape,y.keep.output,y.keep.size,fun k hk=>y.keep.block k hk id⟩;by_cases B:it.res.plain=true
 ·unfold CallRes.plain at B;simp only[aaF,adc]at B;have m:t=[]:=by rw[<- R,B.1];rfl
  subst m;show da w0 O X (s.put (some d) q) _ _;refine eJ h1 L (A.grow f) (M.grow f) ?_;rw[<- ht];exact TD B.2 S
 have aa:it.res.plain=false:=by simpa using B
 simp only[aa,aa5,if_false]at y S;generalize ac:Xo X ρ s.H=Y at y S;have J: ∀b,Xo X ρ s.H b->Y b:=fun b K=>by rw[<- ac];exact K
 by_cases o:it.res.fam=[]
 ·rw[o]at y S;have m:t=[]:=by rw[<- R,o];rfl
  subst m;show da w0 O X (s.put (some d) q) _ _;refine eJ h1 L (A.grow f) (M.grow f) ?_;rw[<- ht];refine o7 S (fun x u T=>vu (fun r C c=>by simp at c) (fun b _ K=> .inl (J b K)) T)
 have m:t≠[]:=by rw[<- R];simpa using o
 have ab:iW s d q t=AS.put ⟨s.tmps,aw s.H d t⟩ (some d) q:=by
  unfold iW;rw[if_neg (by simpa using m)]
 rw[ab];have Z: ∀r b n,ρc 0 r=some (b,n)->(∃C,it.res.fam[r]?=some C)->w.heap.size<=b:=fun r b n E ⟨C,c⟩=>by
  have:=(y.old 0 r C b n (by simpa[famH] using c) E).1;rcases this with h|h
  ·exact h
  exact h.elim
 have p: ∀r b n,(if r<it.res.fam.length then ρc 0 r else none)=some (b,n)->(∃C,it.res.fam[r]?=some C)/\ρc 0 r=some (b,n):=fun r b n h=>by
  split at h
  ·rename_i ad;exact⟨⟨_,aau ad⟩,h⟩
  cases h
 have V: ∀(r b n:Nat),(if r<it.res.fam.length then ρc 0 r else none)=some (b,n)->w.heap.size<=b:=fun r b n h=>Z r b n (p r b n h).2 (p r b n h).1
 have I: ∀x u,AV.rel ρc (famH 0 it.res.fam) (Xo Y ρc (famH 0 it.res.fam)) w1 x u->AV.rel (newρ ρ d fun r=>if r<it.res.fam.length then ρc 0 r else none) (aw s.H d t) (Xo X (newρ ρ d fun r=>if r<it.res.fam.length then ρc 0 r else none) (aw s.H d t)) w1 (bY d x) u:=fun x u T=>by
  refine vu (fun r C c=>?_) (fun b _ K=>?_) T
  ·rw[aM,newρ_eq,if_pos (aaf.1 c).1,<- R,u9,c];exact⟨rfl,rfl⟩
  rcases K with K|⟨x',y',C,n,g1,Q⟩
  ·exact .inl (J b (.inl K))
  by_cases N:x'=d
  ·subst N;rw[newρ_eq]at Q;obtain⟨⟨U,l⟩,g3⟩:=p y' b n Q;exact .inr ⟨0,y',U,n,by simpa[famH] using l,g3⟩
  rw[aD N]at g1;rw[newρ_ne N]at Q;exact .inl (J b (.inr ⟨x',y',C,n,g1,Q⟩))
 refine BG h1 L A M f (hd m) (fun r=>if r<it.res.fam.length then ρc 0 r else none) V (fun r r' b n n' g g'=>?_) (fun r C c=>?_) (fun r C c=>?_) ?_
 ·obtain⟨⟨o1,ae⟩,g1⟩:=p r b n g;obtain⟨⟨U,l⟩,Q⟩:=p r' b n' g';exact(y.inj 0 r 0 r' o1 U b n n' (by simpa[famH] using ae) (by simpa[famH] using l) g1 Q).2
 ·rw[<- R,u9]at c;obtain⟨U,l,rfl⟩:=u6.1 c;intro e G x T;simp only[renO,aai]at G;obtain⟨e',D,rfl⟩:=G;simp only[aai]at T;obtain⟨x',ag,rfl⟩:=T;exact dv _ _
 ·rw[<- R,u9]at c;obtain⟨U,l,rfl⟩:=u6.1 c;have W:=y.objs 0 r U (by simpa[famH] using l);obtain⟨z1,z2,z3⟩:=W;refine⟨fun e G=>?_,z2,?_⟩
  ·simp only[renO,aai]at G;obtain⟨e',D,rfl⟩:=G;rw[aa0];exact z1 e' D
  rw[newρ_eq,if_pos (aaf.1 l).1];cases E:ρc 0 r with
  |none=>rw[E]at z3;simp[renO,z3]
  |some bc=>
   obtain⟨b,n⟩:=bc;rw[E]at z3;obtain⟨cells,p1,p2,p3,p4,p5⟩:=z3;refine⟨cells,p1,p2,by simpa[renO] using p3,p4,fun i e j z G hz=>?_⟩;simp only[renO,u9]at G;obtain⟨e',D,rfl⟩:=u6.1 G;rw[u9]at hz;obtain⟨z',af,rfl⟩:=u6.1 hz;obtain⟨u,u1,u2,u3⟩:=p5 i e' j z' D af;exact⟨u,u1,u2,I z' u u3⟩
 rw[<- ht];exact o7 S I
def Fg (P:Program) (f:FuncId) (args:List TV) (res:CallRes) (w:World):Prop:=
 callable P f=true/\ ∀(X:Nat->Prop) (vs:Array Value),(∀b,X b->b<w.heap.size)->vs.size=args.length->
  (∀(j:Nat) t,args[j]?=some t-> ∃v:Value,vs[j]?=some v/\t.rel (fun _ _=>none) (fun _=>[]) X w v)->
  Calls P f vs w fun e w'=> ∃v,e= .returned v/\ ∃ρ:Rho,
   Inv w (fun _=>False) X (famH 0 res.fam) ρ w'/\res.r.rel ρ (famH 0 res.fam) (Xo X ρ (famH 0 res.fam)) w' v
def ms (P:Program) (b:List (cB P)) (w:World):Prop:= ∀c∈b,Fg P c.f c.args c.res w
theorem gP.at {b:List (cB P)} (h:gP P b) (w:World):ms P b w:=fun e c=>⟨(h e c).1,fun X vs=>(h e c).2 X w vs⟩
theorem Sh {C:List (cB P)} {i d:Nat} {a:Act} (hI:ms P C w) (h1:a.defers=[]) (S:a.tmps.size=s.tmps.length) (A:Inv w0 O X s.H ρ w) (M:aX X ρ s a w) (ho:p.op= .call z) (D:z.callee= .value (.func u)) (h:b9 P C r i d s.ev s.H p.op=some (q,t)) (hd:t≠[]->s.H d=[]) (I:p.dst=some d) (hK: ∀v w',da w0 O X (iW s d q t) (a.put p.dst v) w'->f (a.put p.dst v) w'):p.wp P a w f e:=by
 rw[ho]at h;simp only[b9,D]at h;split at h
 ·rename_i V ts R T;split at h
  ·rename_i hc;obtain⟨c1,W,Y,_⟩:=hc;injection h with h
   injection h with ht hF
   subst c1;obtain⟨e1,e2⟩:=bP T;obtain⟨m,G⟩:=hI V (adB R);have J:=f9 (w:=w) ho D (e:=a.eval) rfl m;unfold Oper.wp;rw[J];simp only[Oper.upon];simp only[aah]at Y;have Z: ∀b,(if V.res.plain then(fun _=>False)else Xo X ρ s.H:Nat->Prop) b->Xo X ρ s.H b:=fun b B=>by
    split at B
    ·exact B.elim
    exact B
   have E: ∀b,Xo X ρ s.H b->b<w.heap.size:=fun b B=>by
    rcases B with B|⟨x,y,o',n,g1,g2⟩
    ·exact A.bar b B
    exact bf (A.objs x y o' g1) g2
   refine(G (if V.res.plain then(fun _=>False)else Xo X ρ s.H) (z.args.map a.eval) (fun b B=>E b (Z b B)) ?_ ?_).mono ?_
   ·rw[<- W];simp[e1]
   ·intro j l hu;rw[<- W,u9]at hu;obtain⟨t0,L,rfl⟩:=u6.1 hu;obtain⟨x,hx,U⟩:=e2 j t0 L;refine⟨a.eval x,by rw[aaS];simp at hx;rw[hx];rfl,?_⟩;exact rm A.objs Z (fun N b B=>by rw[N]at B;exact B) (be M x t0 U) (Y t0 (u5 L))
   rintro g w1 ⟨v,rfl,aa,hi,hr⟩;show f (a.put p.dst v) w1;refine hK v w1 ?_;rw[I];exact l4 h1 S A M ht hF hd hi hr
  cases h
 cases h
theorem NH {D:List (cB P)} {i d:Nat} {a:Act} (hI:ms P D w) (h1:a.defers=[]) (Y:a.tmps.size=s.tmps.length) (m:Inv w0 O X s.H ρ w) (J:aX X ρ s a w) {k:Tmp} (ho:p.op= .call z) (E:z.callee= .value (.tmp k)) (h:b9 P D r i d s.ev s.H p.op=some (q,t)) (hd:t≠[]->s.H d=[]) (R:p.dst=some d) (hK: ∀v w',da w0 O X (iW s d q t) (a.put p.dst v) w'->f (a.put p.dst v) w'):p.wp P a w f e:=by
 rw[ho]at h;simp only[b9,E]at h;split at h
 ·rename_i l T it ts V W Z;split at h
  ·rename_i hc;obtain⟨c1,c2,c3,_⟩:=hc;injection h with h
   injection h with ht hF
   subst c1;obtain⟨L,e2⟩:=bP Z;obtain⟨us,k1,k2,k3⟩:=j8 (v:=a.eval (.tmp k)) (fun t0 C=>be J (.tmp k) t0 C) V;obtain⟨B,N⟩:=hI it (adB W);have S:=km (w:=w) ho E (e:=a.eval) k1 B;unfold Oper.wp;rw[S];simp only[Oper.upon];simp only[aah]at c3;have U: ∀b,(if it.res.plain then(fun _=>False)else Xo X ρ s.H:Nat->Prop) b->Xo X ρ s.H b:=fun b A=>by
    split at A
    ·exact A.elim
    exact A
   have M: ∀b,Xo X ρ s.H b->b<w.heap.size:=fun b A=>by
    rcases A with A|⟨x,y,o',n,g1,g2⟩
    ·exact m.bar b A
    exact bf (m.objs x y o' g1) g2
   refine(N (if it.res.plain then(fun _=>False)else Xo X ρ s.H) (z.args.map a.eval++us) (fun b A=>M b (U b A)) ?_ ?_).mono ?_
   ·rw[<- c2];simp[L,k2]
   ·intro j u hu;rw[<- c2,u9]at hu;obtain⟨t0,C,rfl⟩:=u6.1 hu;have G:=c3 t0 (u5 C);by_cases hj:j<ts.length
    ·rw[aal hj]at C;obtain⟨x,hx,aa⟩:=e2 j t0 C;refine⟨a.eval x,by rw[aaz (by simp at L⊢;omega),aaS];simp at hx;rw[hx];rfl,?_⟩;exact rm m.objs U (fun I b A=>by rw[I]at A;exact A) (be J x t0 aa) G
    rw[aap (by omega)]at C;obtain⟨v,v1,v2⟩:=k3 _ t0 C;refine⟨v,by rw[aaM (by simp at L⊢;omega)];simp at L⊢;rw[<- L];exact v1,?_⟩;exact rm m.objs U (fun I b A=>by rw[I]at A;exact A) v2 G
   rintro g w1 ⟨v,rfl,ab,hi,hr⟩;show f (a.put p.dst v) w1;refine hK v w1 ?_;rw[R];exact l4 h1 Y m J ht hF hd hi hr
  cases h
 cases h
theorem KA {I:List (cB P)} {i d:Nat} {a:Act} (h1:a.defers=[]) (ae:a.tmps.size=s.tmps.length) (y:Inv w0 O X s.H ρ w) (G:aX X ρ s a w) (ho:p.op= .call z) (m:z.callee= .builtin .append) (h:b9 P I r i d s.ev s.H p.op=some (q,t)) (hd:t≠[]->s.H d=[]) (N:p.dst=some d) (hK: ∀v w',da w0 O X (iW s d q t) (a.put p.dst v) w'->f (a.put p.dst v) w'):p.wp P a w f e:=by
 rw[ho]at h;simp only[b9,m]at h;obtain⟨callee,⟨args⟩,⟨argTypes⟩⟩:=z;simp only at m;subst m;split at h
 ·rename_i sx x ty av l V;simp only at l V;subst l V;split at h
  ·rename_i W b hs hx ac;split at h
   ·rename_i g sz Y hz U Z;split at h
    ·rename_i hc;obtain⟨rfl,c7,c8,c9,u,J⟩:=hc;injection h with h
     injection h with ht hF
     subst ht hF;obtain⟨tx,af,C⟩:=aaw.1 hx;obtain⟨us,B⟩:=xz y.objs C (be G x tx af) J u;have ad:=(aV (be G sx _ hs)).1;obtain⟨⟨A,cc,hv,ab⟩,ag,R,ap,aa⟩:=id B;obtain⟨ti,zv,E,al,ah⟩:=kK hz;obtain⟨an,j,T⟩:=r7 U;rw[E]at j;injection j with j;subst j
     obtain⟨an,j,M⟩:=wH Z;rw[E]at j;injection j with j;subst j
     obtain⟨v',w1,S,n,hg,L⟩:=lJ (P:=P) w 0 ty p.type b zv sz Y (dH ac) (by rw[E];simp[al,T,M]) (by rw[<- c9,<- ah];simp) u (.slice none 0 0) 0 [] (acT _ _ _ _) A W.length cc us ab ag R (by unfold maxLen;omega) (by rw[aaO];exact c7) (aaW _);have D:(execOp a.eval p).run P w= .ok (.value v') w1:=by
      unfold execOp;simp only[ho,resolve,invoke,builtin,aak,aaJ,aag,acI,aaC,aaR,hv,ad,S]
     unfold Oper.wp;rw[D];rw[aaO,ab4]at n;refine hK v' w1 ?_;rw[N];exact FL h1 ae y G (hd (by simp)) u J B n hg L
    cases h
   cases h
  cases h
 cases h
theorem I1 {D:List (cB P)} {i d:Nat} {a:Act} (M:ms P D w) (G:a.defers=[]) (A:a.tmps.size=s.tmps.length) (y:Inv w0 O X s.H ρ w) (B:aX X ρ s a w) (h:b9 P D r i d s.ev s.H p.op=some (q,t)) (I:t≠[]->s.H d=[]) (C:p.dst=some d) {Q:Exit->Act->World->Prop} (L: ∀v w',da w0 O X (iW s d q t) (a.put p.dst v) w'->f (a.put p.dst v) w'):p.wp P a w f Q:=by
 have E:(∃v w',(execOp a.eval p).run P w= .ok (.value v) w'/\da w0 O X (iW s d q t) (a.put (some d) v) w')->p.wp P a w f Q:=fun⟨v,w1,g1,g2⟩=>by
  unfold Oper.wp;rw[g1];exact L v w1 (by rw[C];exact g2)
 have ne: ∀{e:OObj} {l:List OObj},e::l≠[]:=fun{e l}=>by simp
 cases z:p.op
 case box e x=>
  refine E (N1 G A y B z h (I ?_));rw[z]at h;simp only[b9]at h;split at h
  ·split at h
   ·injection h with h;injection h with h J;rw[<- J];simp
   cases h
  cases h
 case alloc e=>
  refine E (F9 G A y B z h (I ?_));rw[z]at h;simp only[b9]at h;split at h
  ·split at h
   ·injection h with h;injection h with h J;rw[<- J];simp
   cases h
  cases h
 case makeSlice ty l c=>
  refine E (KQ G A y B z h (I ?_));rw[z]at h;simp only[b9]at h;split at h
  ·split at h
   ·split at h
    ·injection h with h;injection h with h J;rw[<- J];simp
    cases h
   cases h
  cases h
 case buildSlice ty n parts=>exact E (N3 G A y B z h I)
 case call c=>
  cases u:c.callee with
  |value x=>
   cases x with
   |func g=>exact Sh M G A y B z u h I C L
   |tmp k=>exact NH M G A y B z u h I C L
   |const k=>rw[z]at h;simp only[b9,u]at h;cases h
   |global k=>rw[z]at h;simp only[b9,u]at h;cases h
  |invoke j m=>rw[z]at h;simp only[b9,u]at h;cases h
  |builtin b=>
   cases b
   case append=>exact KA G A y B z u h I C L
   all_goals (rw[z]at h;simp only[b9,u]at h;cases h)
 all_goals (rw[z]at h;simp only[b9]at h;cases h)
theorem C0 {j:List (cB P)} {i:Nat} {a:Act} (C:ms P j w) (y:da w0 O X s a w) (h:dG P j r i p s=some l) (m: ∀v w',da w0 O X l (a.put p.dst v) w'->f (a.put p.dst v) w'):p.wp P a w f e:=by
 obtain⟨u,g,ρ,b,c⟩:=y;have c:aX X ρ s a w:=c;unfold dG at h;split at h
 ·obtain⟨t,n,rfl⟩:=u6.1 h;obtain⟨v,A,B⟩:=wZ (be c) n;unfold Oper.wp;rw[A];exact m v w (eJ u g b c B)
 split at h
 ·obtain⟨t,n,rfl⟩:=u6.1 h;obtain⟨v,A,B⟩:=xa (be c) b.objs n;unfold Oper.wp;rw[A];exact m v w (eJ u g b c B)
 split at h
 ·rename_i q I;injection h with h
  subst h;exact Ge u g b c I m
 split at h
 ·cases h
 rename_i d x;split at h
 ·rename_i t n;injection h with h
  subst h;refine I1 C u g b c n (fun G=>absurd rfl G) x ?_;rw[x]at m⊢;exact m
 ·rename_i t F D n;split at h
  ·rename_i E;injection h with h
   subst h;refine I1 C u g b c n (fun _=>E) x ?_;have z:iW s d t F=AS.put ⟨s.tmps,aw s.H d F⟩ (some d) t:=by
    unfold iW;rw[if_neg (by intro h;exact D (adc.1 h))]
   rw[z,x];rw[x]at m;exact m
  cases h
 cases h
theorem tY {j:List (cB P)} {i:Nat} {a:Act} (G:ms P j w) (c:da w0 O X s a w) (h:aS P j r y i p s=some l) (z: ∀v w',da w0 O X l (a.put p.dst v) w'->f (a.put p.dst v) w'):
  if Region.wanted p (yielded y a.tmps)then p.wp P a w f e else f (a.put p.dst undef) w:=by
 unfold aS at h;split at h
 ·rename_i u;rw[if_pos (by simp[Region.wanted,u])];exact C0 G c h z
 rename_i g J u;split at h
 ·cases h
 rename_i d I;have t:=c;obtain⟨F,x,ρ,n,m⟩:=c;split at h
 ·rename_i b B;obtain⟨v,D,C⟩:=m d _ B;have E:=(aV C).1;have A:yielded y a.tmps g=some b:=by
   unfold yielded;rw[I];simp only[aa8,D,E]
  split at h
  ·rename_i q;rw[if_pos (by simp[Region.wanted,u,A,q])];exact C0 G t h z
  rename_i q;rw[if_neg (by simp[Region.wanted,u,A,q])];injection h with h
  subst h;exact z undef w (eJ F x n m dI)
 ·rename_i B;obtain⟨v,D,vs,C,L,_⟩:=m d _ B;have A:yielded y a.tmps g=none:=by
   unfold yielded;rw[I];simp only[aa8,D,C]
  rw[if_neg (by simp[Region.wanted,u,A])];injection h with h
  subst h;exact z undef w (eJ F x n m dI)
 cases h
theorem iZ {b:List (cB P)} {i:Nat} {a:Act} (e:gP P b) (c:da w0 O X s a w) (h:aS P b r y i p s=some l) {K:Act->World->Prop} {Q:Exit->Act->World->Prop} (f: ∀v w',da w0 O X l (a.put p.dst v) w'->K (a.put p.dst v) w'):
  if Region.wanted p (yielded y a.tmps)then p.wp P a w K Q else K (a.put p.dst undef) w:=tY (e.at w) c h f
end
end
section
def bo (P:Program) (c:Code) (Q:Exit->AS->Prop) (s:AS):Prop:=
 ∀(f:World) (O X:Nat->Prop) (a:Act) (w:World),da f O X s a w->c.wp P (fun e g h=> ∃b,Q e b/\da f O X b g h) a w
def bD (s c:AS):Prop:= ∀(b:World) (O X:Nat->Prop) (a:Act) (w:World),da b O X s a w->da b O X c a w
def iP (next:AS->Prop) (Q:Exit->AS->Prop):Exit->AS->Prop
 | .normal,s=>next s
 |e,s=>Q e s
def mG (id:Nat) (Q:Exit->AS->Prop):Exit->AS->Prop
 | .exit b,s=>if b=id then Q .normal s else Q (.exit b) s
 |e,s=>Q e s
section
variable {P:Program} {s s':AS} {Q:Exit->AS->Prop}
theorem bD.refl (s:AS):bD s s:=fun _ _ _ _ _ h=>h
theorem bD.trans {b:AS} (h:bD s l) (k:bD l b):bD s b:=fun _ _ _ _ _ r=>k _ _ _ _ _ (h _ _ _ _ _ r)
theorem bo.weak (h:bD s s') (k:bo P g Q s'):bo P g Q s:=fun _ _ _ _ _ r=>k _ _ _ _ _ (h _ _ _ _ _ r)
theorem bo.mono {b:Exit->AS->Prop} (h:bo P g Q s) (k: ∀e s',Q e s'->b e s'):bo P g b s:=fun _ _ _ _ _ r=>
 wp_mono (h _ _ _ _ _ r) fun _ _ _ ⟨s',f,j⟩=>⟨s',k _ _ f,j⟩
theorem ak (h:Q .normal s):bo P .skip Q s:=fun _ _ _ _ _ r=>wp_skip ⟨s,h,r⟩
theorem aY {id:Nat} (h:Q (.exit id) s):bo P (.exit id) Q s:=fun _ _ _ _ _ r=>wp_exit ⟨s,h,r⟩
theorem aW (h:Q .ret s):bo P .ret Q s:=fun _ _ _ _ _ r=>wp_ret ⟨s,h,r⟩
theorem ai (b:bo P g (iP (bo P h Q) Q) s):bo P (.seq g h) Q s:=fun _ _ _ _ _ r=>
 wp_seq (wp_mono (b _ _ _ _ _ r) fun e a w ⟨s',c,f⟩=>by
  cases e with
  |normal=>exact c _ _ _ _ _ f
  |_=>exact⟨s',c,f⟩)
theorem am {id:Nat} (h:bo P g (mG id Q) s):bo P (.block id g) Q s:=fun _ _ _ _ _ r=>
 wp_block (wp_mono (h _ _ _ _ _ r) fun e a w ⟨s',b,c⟩=>by
  cases e with
  |exit f=>
   simp only[mG]at b;simp only[Exit.inBlock];split at b
   ·rename_i hid;rw[if_pos hid];exact⟨s',b,c⟩
   rename_i hid;rw[if_neg hid];exact⟨s',b,c⟩
  |_=>exact⟨s',b,c⟩)
theorem aZ {b:Bool} (m:s.ev o=some (.raw (.bool b))) (q:b=true->bo P g Q s) (n:b=false->bo P h Q s):bo P (.cond o g h) Q s:=fun _ _ _ _ _ r=>by
 obtain⟨t,p,u,j,f⟩:=id r;have l:=(aV (be f o _ m)).1;exact wp_cond_split l (fun e=>q e _ _ _ _ _ r) (fun e=>n e _ _ _ _ _ r)
theorem aC (e:s.ev o=some (.raw (.bool true))) (b:bo P g Q s):bo P (.cond o g h) Q s:=aZ e (fun _=>b) (fun b=>by cases b)
theorem aq (e:s.ev o=some (.raw (.bool false))) (b:bo P h Q s):bo P (.cond o g h) Q s:=aZ e (fun b=>by cases b) (fun _=>b)
theorem bi (e:s.ev o=some (.raw (.bool true))) (b:bo P h Q s):bo P (.seq (.cond o .skip g) h) Q s:=ai (aC e (ak b))
theorem bv {id:Nat} (e:s.ev o=some (.raw (.bool false))) (b:Q (.exit id) s):bo P (.seq (.cond o g (.exit id)) h) Q s:=ai (aq e (aY b))
theorem bJ (h: ∃n,b n): ∃n,b n/\ ∀m,b m->n<=m:=by
 obtain⟨n,j⟩:=h
 induction n using Nat.strongRecOn with
 |_ n o=>
  by_cases e: ∃m,m<n/\b m
  ·obtain⟨m,f,g⟩:=e;exact o m f g
  exact⟨n,j,fun m l=>ade fun c=>e ⟨m,c,l⟩⟩
theorem CN {G:Type} (St:G->AS) (q:G->Nat) (y:G) (D:bD s (St y)) (round: ∀b,bo P g (iP (fun s'=> ∃j,q j<q b/\bD s' (St j)) Q) (St b)):bo P (.loop g) Q s:=fun J O X a w r=>by
 classical
 let p:Act->World->Nat->Prop:=fun a w n=> ∃b,q b=n/\da J O X (St b) a w
 let m:Act->World->Nat:=fun a w=>if h: ∃n,p a w n then Classical.choose (bJ h)else 0
 refine wp_loop (fun a w=> ∃n,p a w n) m ⟨_,y,rfl,D _ _ _ _ _ r⟩ ?_;intro a w t;have F:m a w=Classical.choose (bJ t):=dif_pos t;obtain⟨B,o⟩:=abG (bJ t);rw[<- F]at B;obtain⟨b,K,H⟩:=B;refine wp_mono (round b _ _ _ _ _ H) fun e x C ⟨s',z,A⟩=>?_
 cases e with
 |normal=>
  obtain⟨j,E,I⟩:=z;have l:=I _ _ _ _ _ A;have f: ∃n,p x C n:=⟨_,j,rfl,l⟩;refine⟨f,?_⟩;have v:m x C=Classical.choose (bJ f):=dif_pos f;obtain⟨_,u⟩:=abG (bJ f);have:=u (q j) ⟨j,rfl,l⟩;rw[v];omega
 |_=>exact⟨s',z,A⟩
theorem ic {b:List (cB P)} (p:gP P b) {z:List Nat} {c:Array Oper} {t:World} {O X:Nat->Prop} {Q:Exit->Act->World->Prop}: ∀(l:List Oper) (k:Nat) (s s':AS) (a:Act) (w:World),(∀(j:Nat) o,l[j]?=some o->c[k+j]?=some o)->
  f7 P b z c (l.zipIdx k) s=some s'->da t O X s a w->(∀n m,da t O X s' n m->Q .normal n m)->wpOps P c Q (List.range' k l.length) a w
 |[],k,s,s',a,w,_,h,r,e=>by
  simp only[acw,f7]at h;injection h with h
  subst h;exact e a w r
 |o::l,k,s,s',a,w,q,h,r,e=>by
  simp only[abO,f7]at h;split at h
  ·rename_i A f;simp only[aaG,aa1,wpOps];have x:c[k]?=some o:=by have:=q 0 o rfl;simpa using this
   rw[x];simp only;have:=iZ (Q:=Q) p r f (K:=wpOps P c Q (List.range' (k+1) l.length)) (fun v m y=>ic p l (k+1) A s' _ _ (fun j o u=>by have:=q (j+1) o (by simpa using u);rwa[show k+(j+1)=k+1+j by omega]at this) h y e);split at this
   ·rename_i g;rw[if_pos g];exact .inl this
   rename_i g;rw[if_neg g];exact this
  cases h
theorem Fq (b:List (cB P)) (g:gP P b) (p:List Nat) {id:Nat} (h:f7 P b p y y.toList.zipIdx s=some s') (l:Q .normal s'):bo P (.region id y false) Q s:=fun q O X a w r=>by
 refine wp_region ?_;rw[aax];have:=ic g (Q:=fun e c f=> ∃s',Q e s'/\da q O X s' c f) y.toList 0 s s' a w (fun j o m=>by simpa using m) h r (fun c f n=>⟨s',l,n⟩);simpa using this
end
/-! ### The end of a function -/
def tD (P:Program) (s:AS):ResultVar->Option TV
 | .tmp t=>s.tmps[t]?
 | .cell a t=>match s.tmps[a]? with
  |some (.one (.ptr b r i j))=>match(s.H b)[r]? with
   |some o=>match o.elems[i]? with
    |some e=>nw P t (e.drop j)
    |none=>none
   |none=>none
  |_=>none
def Cn:TV->Option (Bool×List AV)
 | .one x=>some (false,[x])
 | .agg b=>some (true,b)
 | .tup _=>none
 | .fn _ _=>none
def xY (P:Program) (s:AS):List ResultVar->Option (List (Bool×List AV))
 |[]=>some []
 |r::l=>match(tD P s r).bind Cn,xY P s l with
  |some t,some b=>some (t::b)
  |_,_=>none
def pj (P:Program) (s:AS):List ResultVar->Option TV
 |[r]=>tD P s r
 |rs=>(xY P s rs).map TV.tup
section
variable {P:Program} {w0 w:World} {O X:Nat->Prop} {ρ:Rho} {s:AS}
def xG (tmps:Array Value):ResultVar->Sem Value
 | .tmp t=>pure (tmps.getD t undef)
 | .cell b t=>do loadVar t (<- asAddr (tmps.getD b undef))
theorem G4 (b:Func) (tmps:Array Value):results b tmps=(do let vs<- b.results.mapM (xG tmps);pure (if h:vs.size=1 then vs[0]else .tuple vs)):=by
 have h: ∀(f g:ResultVar->Sem Value),f=g->(do let vs<- b.results.mapM f;pure (if h:vs.size=1 then vs[0]else .tuple vs):Sem Value)=(do let vs<- b.results.mapM g;pure (if h:vs.size=1 then vs[0]else .tuple vs)):=fun f g h=>by rw[h]
 unfold results;apply h;funext x;cases x<;>rfl
theorem rH {a:Act} (f:Inv w0 O X s.H ρ w) (g:aX X ρ s a w) {m:ResultVar} (h:tD P s m=some q):
  ∃v,(xG a.tmps m).run P w= .ok v w/\q.rel ρ s.H (Xo X ρ s.H) w v:=by
 cases m with
 |tmp k=>
  simp only[tD]at h;obtain⟨v,l,A⟩:=g k q h;exact⟨v,by simp[xG,abI,l],A⟩
 |cell p G=>
  simp only[tD]at h;split at h
  ·rename_i x r i j C;obtain⟨v,l,o,b,c,n,y,F,z⟩:=g p _ C;rw[n]at h;simp only at h;split at h
   ·rename_i e B;obtain⟨u,D,E⟩:=pX h (mH (Ai (f.objs x r o n) y B) j);refine⟨u,?_,E⟩;simp only[xG,abI,l,abh,z,asAddr,aak,aaJ,aag,D]
   cases h
  cases h
theorem xZ {a:Act} (e:Inv w0 O X s.H ρ w) (n:aX X ρ s a w): ∀{q:List ResultVar} {m:List (Bool×List AV)},xY P s q=some m->
  ∃vs:List Value,(q.mapM (xG a.tmps)).run P w= .ok vs w/\vs.length=m.length/\
   ∀(j:Nat) b c,m[j]?=some (b,c)-> ∃u:Value,vs[j]?=some u/\((b=true/\bI ρ s.H (Xo X ρ s.H) w c u)\/(b=false/\ ∃x,c=[x]/\x.rel ρ s.H (Xo X ρ s.H) w u))
 |[],m,h=>by
  simp only[xY]at h;injection h with h
  subst h;exact⟨[],by simp,rfl,fun j b c h=>by simp at h⟩
 |r::l,m,h=>by
  simp only[xY]at h;split at h
  ·rename_i t E C D;injection h with h
   subst h;obtain⟨F,p,g⟩:=aaw.1 C;obtain⟨v,J,y⟩:=rH e n p;obtain⟨vs,z,A,B⟩:=xZ e n D;refine⟨v::vs,?_,by simp[A],fun j b c o=>?_⟩
   ·rw[List.mapM_cons,aak,J,aag,aak,z];rfl
   cases j with
   |succ j=>simp at o;obtain⟨u,G,I⟩:=B j b c o;exact⟨u,by simpa using G,I⟩
   |zero=>
    simp at o;subst o;refine⟨v,rfl,?_⟩;cases F with
    |one x=>simp[Cn]at g;obtain⟨rfl,rfl⟩:=g;exact .inr ⟨rfl,x,rfl,y⟩
    |agg c=>simp[Cn]at g;obtain⟨rfl,rfl⟩:=g;exact .inl ⟨rfl,y⟩
    |tup m=>cases g
    |fn f c=>cases g
  cases h
theorem eA {a:Act} (c:Inv w0 O X s.H ρ w) (g:aX X ρ s a w) (h:pj P s B.results.toList=some q): ∃v,(results B a.tmps).run P w= .ok v w/\q.rel ρ s.H (Xo X ρ s.H) w v:=by
 rw[G4,Array.mapM_eq_mapM_toList];generalize G:B.results.toList=e at h;unfold pj at h;split at h
 ·rename_i r;obtain⟨v,K,L⟩:=rH c g h;refine⟨v,?_,L⟩;simp only[List.mapM_cons,List.mapM_nil,map_eq_pure_bind,aak,K,aag,aaJ]
  simp
 rename_i o;cases n:xY P s e with
 |none=>rw[n]at h;cases h
 |some m=>
  rw[n]at h;simp at h;subst h;obtain⟨vs,y,z,A⟩:=xZ c g n;refine⟨.tuple vs.toArray,?_,vs.toArray,rfl,by simpa using z,fun j b x E=>by simpa using A j b x E⟩;have f: ∀{e:List ResultVar} {m:List (Bool×List AV)},xY P s e=some m->m.length=e.length:=by
   intro e
   induction e with
   |nil=>intro m h;simp only[xY]at h;injection h with h;subst h;rfl
   |cons r l I=>
    intro m h;simp only[xY]at h;split at h
    ·rename_i q J C D;injection h with h
     subst h;simp[I D]
    cases h
  have u:vs.length≠1:=fun C=>by
   have:=f n;have p:e.length=1:=by omega
   obtain⟨r,F⟩:=adX.1 p;exact o r F
  simp only[map_eq_pure_bind,aak,y,aag,aaJ];rw[dif_neg (by simpa using u)]
def selfTV (a:Nat):TV->Prop
 | .one x=>bs a x
 | .agg b=> ∀x∈b,bs a x
 | .fn _ b=> ∀x∈b,bs a x
 | .tup c=> ∀t∈c,∀x∈t.2,bs a x
def uE (H:OH) (b:Nat) (r:TV):Prop:=match Nat.ble b 4999 with
 |true=>selfTV b r
 |false=>selfTV b r/\H b=[]
theorem yj {H:OH} (h:uE H n q):selfTV n q/\(n<=4999\/H n=[]):=by
 unfold uE at h;split at h
 ·rename_i b;exact⟨h,.inl (Nat.le_of_ble_eq_true b)⟩
 exact⟨h.1,.inr h.2⟩
theorem LV {H:OH} (h:selfTV n q) (b:H n=[]):uE H n q:=by
 unfold uE;split
 ·exact h
 exact⟨h,b⟩
theorem yh {H:OH} (h:selfTV n q) (b:n<=4999):uE H n q:=by
 unfold uE;rw[Nat.ble_eq_true_of_le b];exact h
def np (P:Program) (c:Func) (res:CallRes) (s:AS):Prop:=
 ∃r b,pj P s c.results.toList=some r/\uE s.H b r/\res.fam=(s.H b).map (renO 0)/\res.r=renTV 0 r
theorem wJ (G:World->Prop) {fn:Func} {args:List TV} {res:CallRes} (hf:P.funcs[u]?=some fn) (hb:fn.body=some g) (hn:callable P u=true) (h: ∀(w0:World) (X:Nat->Prop) (a:Act),G w0->da w0 (fun _=>False) X ⟨args++List.replicate (fn.ntmps-args.length) .undef,fun _=>[]⟩ a w0->g.wp P (fun e a' W=> ∃s1,((e= .normal\/e= .ret)/\ ∃s',bD s1 s'/\np P fn res s')/\da w0 (fun _=>False) X s1 a' W) a w0) (w:World) (hG:G w):Fg P u args res w:=by
 refine⟨hn,fun X vs hX a2 ab=>?_⟩;refine calls_of_wp hf hb ?_;have al:da w (fun _=>False) X ⟨args++List.replicate (fn.ntmps-args.length) .undef,fun _=>[]⟩ {tmps:=vs++Array.replicate (fn.ntmps-vs.size) undef,defers:=[]} w:=by
  refine⟨rfl,by simp[a2],fun _ _=>none,⟨Keep.refl w,fun a r o m=>by simp at m,fun a r a' r' o I b g c' m=>by simp at m,fun a r o b g m=>by simp at m,hX,fun a r o m=>by simp at m⟩,fun t x A=>?_⟩;have aa: ∀b,b<w.heap.size->Xo X (fun _ _=>none) (fun _=>[]) b->X b:=fun b _ h=>by
   rcases h with h|⟨a,r,o,g,F,h2⟩
   ·exact h
   cases h2
  by_cases ht:t<args.length
  ·rw[aal ht]at A;obtain⟨v,v1,v2⟩:=ab t x A;refine⟨v,by rw[aaz (by omega)];exact v1,TV.rel_map v2 (fun y l N=>?_)⟩;cases y with
   |p y=>exact bQ.weaken aa N
   |sl a r a3 len=>obtain⟨o,F,_⟩:=N;simp at F
   |ptr a r i j=>obtain⟨o,_,_,F,_⟩:=N;simp at F
   |fn u a qs=>exact(oQ (fun _=>rfl) N).elim
   |junk=>trivial
  rw[aap (by omega),aaY]at A;split at A
  ·rename_i a4;injection A with A
   subst A;refine⟨undef,?_,dI⟩;rw[aaM (by omega),abo,if_pos (by omega)]
  cases A
 refine wp_mono (h _ _ _ hG al) fun e a' W ⟨s1,⟨M,s2,hw,r,B,an,T,K,hr⟩,ad⟩=>?_
 obtain⟨C,h5⟩:=yj T;obtain⟨F,a5,ρ,q,ae⟩:=hw _ _ _ _ _ ad;have ae:aX X ρ s2 a' W:=ae;obtain⟨v,v1,v2⟩:=eA q ae an;have hF: ∀(k:Nat) o,(famH 0 res.fam 0)[k]?=some o-> ∃I,(s2.H B)[k]?=some I/\o=renO 0 I:=fun k o m=>by
  simp only[famH,if_true,K,u9]at m;obtain⟨I,D,R⟩:=u6.1 m;exact⟨I,D,R.symm⟩
 have U: ∀(x k:Nat) o,(famH 0 res.fam x)[k]?=some o->x=0:=fun x k o m=>by
  by_cases A:x=0
  ·exact A
  simp[famH,A]at m
 have aa: ∀b,Xo X (fun _ k=>ρ B k) (famH 0 res.fam) b->Xo X ρ s2.H b:=fun b hb=>by
  rcases hb with hb|⟨x,k,o,n,D,R⟩
  ·exact .inl hb
  have:=U x k o D;subst this;obtain⟨I,g3,_⟩:=hF k o D;exact .inr ⟨B,k,I,n,g3,R⟩
 have E: ∀x l,bs B x->AV.rel ρ s2.H (Xo X ρ s2.H) W x l->AV.rel (fun _ k=>ρ B k) (famH 0 res.fam) (Xo X (fun _ k=>ρ B k) (famH 0 res.fam)) W (bY 0 x) l:=jt (c:=bs B) (fun _ _ _ _ _ _ h=>h.1) (mb 0) fun x l hn L A=>by
  cases x with
  |fn=>cases hn
  |p x=>exact bQ.weaken (fun b _ hb=>aa b hb) A
  |sl x k a3 len=>
   have L:x=B:=L;subst L;obtain⟨o,D,R,g3⟩:=A;have h6:x<=4999:=h5.resolve_right fun h=>by rw[h]at D;simp at D
   exact⟨renO 0 o,by simp[famH,K,D],by simpa[renO] using R,nf (ρ':=fun _ k=>ρ x k) (a':=0) (r':=k) h6 g3 rfl⟩
  |ptr x k i j=>
   have L:x=B:=L;subst L;obtain⟨o,b,g,D,R,g3,g4⟩:=A;exact⟨renO 0 o,b,g,by simp[famH,K,D],R,by simpa[renO] using g3,g4⟩
  |junk=>trivial
 have Z: ∃Y:Rho,Inv w (fun _=>False) X (famH 0 res.fam) Y W/\res.r.rel Y (famH 0 res.fam) (Xo X Y (famH 0 res.fam)) W v:=by
  refine⟨fun _ k=>ρ B k,⟨q.keep,fun x k o m=>?_,fun x k x' k' o I b g c' m ah ac a1=>?_,fun x k o b g m ac=>?_,q.bar,fun x k o m=>?_⟩,?_⟩
  ·have:=U x k o m;subst this;obtain⟨I,D,rfl⟩:=hF k o m;obtain⟨z1,z2,z3⟩:=q.objs B k I D;refine⟨fun e M=>?_,z2,?_⟩
   ·simp only[renO,aai]at M;obtain⟨e',J,rfl⟩:=M;rw[aa0];exact z1 e' J
   cases S:ρ B k with
   |none=>rw[S]at z3;simp only[S];simp[renO,z3]
   |some bc=>
    obtain⟨b,n⟩:=bc;rw[S]at z3;obtain⟨cells,p1,p2,p3,p4,p5⟩:=z3;simp only[S];refine⟨cells,p1,p2,by simpa[renO] using p3,p4,fun i e j z M U=>?_⟩;simp only[renO,u9]at M;obtain⟨e',J,rfl⟩:=u6.1 M;rw[u9]at U;obtain⟨z',af,rfl⟩:=u6.1 U;obtain⟨l,u1,V,u3⟩:=p5 i e' j z' J af;exact⟨l,u1,V,E z' l (q.self B k I D e' (u5 J) z' (u5 af)) u3⟩
  ·have e1:=U x k o m;have e2:=U x' k' I ah;subst e1 e2;obtain⟨o1,D,_⟩:=hF k o m;obtain⟨o2,R,_⟩:=hF k' I ah;exact⟨rfl,(q.inj B k B k' o1 o2 b g c' D R ac a1).2⟩
  ·have e1:=U x k o m;subst e1;obtain⟨o1,D,_⟩:=hF k o m;exact q.old B k o1 b g D ac
  ·have e1:=U x k o m;subst e1;obtain⟨o1,D,rfl⟩:=hF k o m;intro e M z av;simp only[renO,aai]at M;obtain⟨e',J,rfl⟩:=M;simp only[aai]at av;obtain⟨z',af,rfl⟩:=av;exact dv _ _
  rw[hr];have agg: ∀Q l,(∀x∈Q,bs B x)->bI ρ s2.H (Xo X ρ s2.H) W Q l->bI (fun _ k=>ρ B k) (famH 0 res.fam) (Xo X (fun _ k=>ρ B k) (famH 0 res.fam)) W (Q.map (bY 0)) l:=fun Q l L h=>by
   obtain⟨us,F,h2,h3⟩:=h;refine⟨us,F,by simpa using h2,fun j x A=>?_⟩;rw[u9]at A;obtain⟨y,N,rfl⟩:=u6.1 A;obtain⟨u',u1,V,u3⟩:=h3 j y N;exact⟨u',u1,V,E _ _ (L y (u5 N)) u3⟩
  cases r with
  |one x=>exact E x v C v2
  |agg Q=>exact agg Q v C v2
  |fn u Q=>obtain⟨l,F,h2⟩:=v2;exact⟨l,agg Q l C F,h2⟩
  |tup ts=>
   obtain⟨us,F,h2,h3⟩:=v2;refine⟨us,F,by simpa using h2,fun j b Q A=>?_⟩;rw[u9]at A;obtain⟨y,N,ap⟩:=u6.1 A;obtain⟨b',ag⟩:=y;simp at ap;obtain⟨rfl,rfl⟩:=ap;obtain⟨l,u1,V⟩:=h3 j b' ag N;have L:=C (b',ag) (u5 N);refine⟨l,u1,?_⟩;rcases V with⟨V,u3⟩|⟨V,x,rfl,u4⟩
   ·exact .inl ⟨V,agg _ _ L u3⟩
   exact .inr ⟨V,_,rfl,E _ _ (L x (by simp)) u4⟩
 rcases M with rfl|rfl
 ·exact⟨F,v,v1,v,rfl,Z⟩
 exact⟨F,v,v1,v,rfl,Z⟩
theorem fk {args:List TV} {res:CallRes} (m:P.funcs[u]?=some B) (l:B.body=some g) (b:callable P u=true) (h:bo P g (fun e s=>(e= .normal\/e= .ret)/\ ∃j,bD s j/\np P B res j) ⟨args++List.replicate (B.ntmps-args.length) .undef,fun _=>[]⟩):CallC P u args res:=
 ⟨b,fun X w vs=>(wJ (fun _=>True) m l b (fun w0 X a _ r=>h w0 _ X a w0 r) w trivial).2 X vs⟩
end
end
end Go.Proofs.YtalmoejhjceflaaGreat
