/-
  Part 5 of a proof (walks and plain facts).
-/
import Derived.Test.YtalmoejhjceflaaGreatR03
set_option linter.all false
set_option maxRecDepth 100000
set_option maxHeartbeats 64000000
namespace Go.Proofs.YtalmoejhjceflaaGreat
open Go.RowKit
variable {b c:Nat->Prop} {e:Exit->Act->World->Prop} {f:Act->World->Prop} {g h:Code} {j:Value} {s l:AS} {n:Nat} {m:List Value} {o:Oper} {p:Operand} {q:List Nat} {r:TV} {t:List OObj} {u:FuncId} {v:Rho} {w:List (List AV)} {x:OH} {y:Array Oper} {z:Call} {A:OObj} {B:Func} {C:AV}
section
section
variable {P:Program} {w0 w w':World} {O X:Nat->Prop} {ρ:Rho} {H:OH}
theorem Sd {l:List Value} {elems b:List (List AV)} {R:AV->Value->Prop} (s:m.length=elems.length*n) (q: ∀e∈elems,e.length=n) (o: ∀(i:Nat) e (j:Nat) x,elems[i]?=some e->e[j]?=some x-> ∃u:Value,m[i*n+j]?=some u/\u.oneCell'=true/\R x u) (p: ∀(i:Nat) e (j:Nat) x,b[i]?=some e->e[j]?=some x-> ∃u:Value,l[i*n+j]?=some u/\u.oneCell'=true/\R x u):
  ∀(i:Nat) e (j:Nat) x,(elems++b)[i]?=some e->e[j]?=some x-> ∃u:Value,(m++l)[i*n+j]?=some u/\u.oneCell'=true/\R x u:=by
 intro i e j x f c;by_cases r:i<elems.length
 ·rw[aal r]at f;obtain⟨u,g,h⟩:=o i e j x f c;exact⟨u,by rw[aal (aaf.1 g).1];exact g,h⟩
 rw[aap (by omega)]at f;obtain⟨u,g,h⟩:=p _ e j x f c;refine⟨u,?_,h⟩;have t:elems.length*n<=i*n:=aat _ (by omega);rw[aap (by omega),s,<- g]
 congr 1
 rw[Nat.mul_sub_right_distrib];omega
theorem Jz {a f:Nat} {o:OObj} (q:w'.ownsRow 0 o.ty o.es j f m) (R:o.elems.length=f) (z:0<o.es) (y: ∀e∈o.elems,e.length=o.es) (l: ∀(i:Nat) e (c:Nat) h,o.elems[i]?=some e->e[c]?=some h-> ∃u:Value,m[i*o.es+c]?=some u/\u.oneCell'=true/\h.rel v x b w' u) (K:v a n=none->j= .slice none 0 0) (s: ∀g cap cur,j= .slice (some ⟨g,0,none⟩) f cap->w'.heap[g]?=some (.cells cur o.ty (0,0))->v a n=some (g,cap)) (p:j= .slice none 0 0->v a n=none):objRel v x b w' a n o:=by
 refine⟨y,z,?_⟩;obtain⟨Q,C⟩:=q;rcases C with⟨A,N⟩|⟨g,cap,cur,A,_,B,F,E,G,I⟩
 ·rw[p A];exact abC.1 (by omega)
 rw[s g cap cur A B];refine⟨cur,B,G,by omega,E,fun i e c h D J=>?_⟩;obtain⟨u,t,L,M⟩:=l i e c h D J;refine⟨u,?_,L,M⟩;rw[<- I,aaH]at t;split at t
 ·simpa using t
 cases t
theorem JA {Y':Nat->Prop} {a b:Nat} {o:OObj} (e:w'.ownsRow 0 o.ty o.es j b m) (y:o.elems.length=b) (t:(x a)[n]?=some o) (h: ∀g cap cur,j= .slice (some ⟨g,0,none⟩) b cap->w'.heap[g]?=some (.cells cur o.ty (0,0))->v a n=some (g,cap)) (c:j= .slice none 0 0->v a n=none):AV.rel v x Y' w' (.sl a n 0 b) j:=by
 refine⟨o,t,by omega,?_⟩;obtain⟨u,q⟩:=e;rcases q with⟨f,p⟩|⟨g,cap,cur,f,_,s,l,_⟩
 ·exact .inl ⟨c f,f,p,rfl⟩
 exact .inr ⟨g,cap,cap,h g cap cur f s,by rw[f,ab2],by omega,fun _=>rfl⟩
def valρ:Value->Option (Nat×Nat)
 | .slice (some a) _ cap=>some (a.block,cap)
 |_=>none
theorem xk (h:w.grownBy w' none):Ext w w':=⟨h.os,h.tape,h.output,h.size,fun k b=>h.block k b (by simp)⟩
theorem FL {v:Act} (V:v.defers=[]) (K:v.tmps.size=s.tmps.length) (A:Inv w0 O X s.H ρ w) (L:aX X ρ s v w) {d:Nat} {e:TypeId} {l:List (List AV)} {vs:Value} (U:s.H d=[]) (J:0<n) (I: ∀x∈l,x.length=n) (F:Is ρ s.H (Xo X ρ s.H) w vs l n m) (p:w'.ownsRow 0 e n j l.length m) (W:w.grownBy w' none) (T:j.ownBlock=none\/j.ownBlock=some w.heap.size):
  da w0 O X (AS.put ⟨s.tmps,aw s.H d [⟨e,n,l⟩]⟩ (some d) (.one (.sl d 0 0 l.length))) (v.put (some d) j) w':=by
 obtain⟨_,aa,_,Z,D⟩:=F;have z:=xk W;have M: ∀g c,valρ j=some (g,c)->g=w.heap.size:=fun g c h=>by
  rcases p.2 with⟨q,_⟩|⟨R,cap,cur,q,_⟩
  ·rw[q]at h;cases h
  rw[q]at h T;simp[valρ]at h;simp[Value.ownBlock]at T;omega
 have B: ∀(r b G:Nat),(if r=0 then valρ j else none)=some (b,G)->w.heap.size<=b:=fun r b G h=>by
  split at h
  ·have:=M b G h;omega
  cases h
 have t: ∀(g cap:Nat) (cur:Array Value),j= .slice (some ⟨g,0,none⟩) l.length cap->w'.heap[g]?=some (.cells cur e (0,0))->newρ ρ d (fun r=>if r=0 then valρ j else none) d 0=some (g,cap):=fun g cap cur q _=>by
  rw[newρ_eq,if_pos rfl,q];rfl
 have C:j= .slice none 0 0->newρ ρ d (fun r=>if r=0 then valρ j else none) d 0=none:=fun q=>by rw[newρ_eq,if_pos rfl,q];rfl
 refine BG V K A L z U (fun r=>if r=0 then valρ j else none) B (fun r r' b c G h S=>?_) (fun r o E=>?_) (fun r o E=>?_) ?_
 ·split at h
  ·split at S
   ·omega
   cases S
  cases h
 ·cases r with
  |succ r=>simp at E
  |zero=>simp at E;subst E;exact fun x N y Q=>cG (Z x N y Q)
 ·cases r with
  |succ r=>simp at E
  |zero=>
   simp at E;subst E;refine Jz (o:=⟨e,n,l⟩) p rfl J I (fun i x f y N Q=>?_) (fun h=>?_) t C
   ·obtain⟨u,u1,u2,u3⟩:=D i x f y N Q;exact⟨u,u1,u2,jH A z U B u3⟩
   rcases p.2 with⟨q,_⟩|⟨R,cap,cur,q,_,Y,_⟩
   ·exact q
   rw[t R cap cur q Y]at h;cases h
 exact JA (Y':=Xo X (newρ ρ d (fun r=>if r=0 then valρ j else none)) (aw s.H d [⟨e,n,l⟩])) (o:=⟨e,n,l⟩) p rfl (by rw[aM];rfl) t C
theorem FM {a9:Act} (q:Inv w0 O X s.H ρ w) (br:aX X ρ s a9 w) {a:Nat} {D:List (List AV)} {us:List Value} {vs v':Value} (ho:(s.H a)[n]?=some A) (bl: ∀x∈D,x.length=A.es) (bw: ∀(i:Nat) e (l:Nat) x,A.elems[i]?=some e->e[l]?=some x-> ∃u:Value,m[i*A.es+l]?=some u/\u.oneCell'=true/\x.rel ρ s.H (Xo X ρ s.H) w u) (bt:m.length=A.elems.length*A.es) (ap:j.ownBlock=(ρ a n).map (·.1)) (bb:Is ρ s.H (Xo X ρ s.H) w vs D A.es us) (ac:w'.ownsRow 0 A.ty A.es v' (A.elems.length+D.length) (m++us)) (hg:w.grownBy w' j.ownBlock) (S:v'.ownBlock=j.ownBlock\/v'.ownBlock=some w.heap.size):
  let k:Nat->Nat->Bool:=fun x y=>x==a&&y==n
  let U:=aw s.H a (((s.H a).map (jC k)).set n {A with elems:=A.elems++D})
  (∀e∈A.elems,∀x∈e,isPure x=true)->
  ∃E,Inv w0 O X U E w'/\aX X E ⟨s.tmps.map (aP k),U⟩ a9 w'/\AV.rel E U (Xo X E U) w' (.sl a n 0 (A.elems.length+D.length)) v':=by
 intro k U bn;obtain⟨_,bR,_,hp,a5⟩:=bb;obtain⟨q1,q2,q3⟩:=q.objs a n A ho;have bq:n<(s.H a).length:=(aaf.1 ho).1;have W: ∀r':Nat,(U a)[r']?=if r'=n then some {A with elems:=A.elems++D}else((s.H a)[r']?).map (jC k):=fun r'=>by
  show(aw _ _ _ a)[r']?=_;rw[aM];by_cases M:r'=n
  ·subst M;rw[if_pos rfl,aa7];simp[bq]
  rw[if_neg M,aaI (abD M),u9]
 have a0: ∀a',a'≠a->U a'=s.H a':=fun a' ha=>aD ha
 generalize a4:(fun x y=>if x=a/\y=n then valρ v' else ρ x y:Rho)=E;have R:E a n=valρ v':=by rw[<- a4];exact if_pos ⟨rfl,rfl⟩
 have G: ∀x y,¬(x=a/\y=n)->E x y=ρ x y:=fun x y h=>by rw[<- a4];exact if_neg h
 have ad: ∀g c,valρ v'=some (g,c)->(∃c0,ρ a n=some (g,c0))\/g=w.heap.size:=fun g c h=>by
  rcases ac.2 with⟨hv,_⟩|⟨g',cap,cur,hv,_⟩
  ·rw[hv]at h;cases h
  rw[hv]at h S;simp[valρ]at h;rcases S with S|S
  ·left;rw[ap]at S;cases M:ρ a n with
   |none=>rw[M]at S;simp[Value.ownBlock]at S
   |some T=>
    obtain⟨b0,c0⟩:=T;rw[M]at S;simp[Value.ownBlock]at S;exact⟨c0,by rw[<- h.1,S]⟩
  right;simp[Value.ownBlock]at S;omega
 -- a ah row of U other than (a, n) is one of H, killed or not
 have K: ∀(x y:Nat) F,(U x)[y]?=some F-> ¬(x=a/\y=n)-> ∃J,(s.H x)[y]?=some J/\F.ty=J.ty/\F.es=J.es/\F.elems.length=J.elems.length/\(F=J/\x≠a\/F=jC k J):=fun x y F B a6=>by
  by_cases hx:x=a
  ·subst hx;rw[W,if_neg (fun h=>a6 ⟨rfl,h⟩)]at B;obtain⟨J,L,V⟩:=u6.1 B;exact⟨J,L,by rw[<- V];rfl,by rw[<- V];rfl,by rw[<- V];simp[jC],.inr V.symm⟩
  rw[a0 x hx]at B;exact⟨F,B,rfl,rfl,rfl,.inl ⟨rfl,hx⟩⟩
 have ah: ∀(x y:Nat) F,(s.H x)[y]?=some F-> ¬(x=a/\y=n)-> ∃J,(U x)[y]?=some J/\J.es=F.es/\J.elems.length=F.elems.length:=fun x y F B a6=>by
  by_cases hx:x=a
  ·subst hx;refine⟨jC k F,?_,rfl,by simp[jC]⟩;rw[W,if_neg (fun h=>a6 ⟨rfl,h⟩),B];rfl
  exact⟨F,by rw[a0 x hx];exact B,rfl,rfl⟩
 have an: ∀b,b<w.heap.size->Xo X E U b->Xo X ρ s.H b:=fun b S hX=>by
  rcases hX with hX|⟨x,y,F,c,L,V⟩
  ·exact .inl hX
  by_cases C:x=a/\y=n
  ·obtain⟨rfl,rfl⟩:=C;rw[R]at V;rcases ad b c V with⟨c0,aa⟩|hh
   ·exact .inr ⟨x,y,A,c0,ho,aa⟩
   omega
  obtain⟨J,k1,_⟩:=K x y F L C;rw[G x y C]at V;exact .inr ⟨x,y,J,c,k1,V⟩
 have mono: ∀x j,AV.rel ρ s.H (Xo X ρ s.H) w x j->AV.rel E U (Xo X E U) w' (aN k x) j:=gk (mO k) fun x u hn hx=>by
  cases x with
  |fn=>cases hn
  |p x=>
   have Y:bQ (fun b=>Xo X ρ s.H b\/Xo X E U b) w x u:=bQ.weaken (fun b S Q=>Q.elim id (an b S)) hx;have z2:bQ (fun b=>Xo X ρ s.H b\/Xo X E U b) w' x u:=bQ.stays ⟨hg.size,fun p z hp Q=>by
    have bm:=vg Q;unfold World.cell? at Q⊢;rw[hg.block _ bm (fun t=>?_)]
    ·exact Q
    apply hp;left;rw[ap]at t;cases M:ρ a n with
    |none=>rw[M]at t;cases t
    |some T=>
     rw[M]at t;simp at t;exact .inr ⟨a,n,A,T.2,ho,by rw[M,t]⟩⟩ Y
   exact bQ.weaken (fun b _ Q=> .inr Q) z2
  |sl x y bh len=>
   simp only[aN];by_cases C:x=a/\y=n
   ·obtain⟨rfl,rfl⟩:=C;simp[k];trivial
   have:k x y=false:=by simp[k];omega
   simp only[this,aa5,if_false];obtain⟨F,Z,h2,h3⟩:=hx;obtain⟨J,L,V,g3⟩:=ah x y F Z C;exact⟨J,L,by omega,by rw[G x y C,V];exact h3⟩
  |ptr x y i l=>
   simp only[aN];by_cases C:x=a/\y=n
   ·obtain⟨rfl,rfl⟩:=C;simp[k];trivial
   have:k x y=false:=by simp[k];omega
   simp only[this,aa5,if_false];obtain⟨F,b,c,Z,h2,h3,h4⟩:=hx;obtain⟨J,L,V,g3⟩:=ah x y F Z C;exact⟨J,b,c,L,by rw[G x y C];exact h2,by omega,by rw[V];exact h4⟩
  |junk=>trivial
 have al: ∀x j,isPure x=true->AV.rel ρ s.H (Xo X ρ s.H) w x j->AV.rel E U (Xo X E U) w' x j:=fun x u bp hx=>by
  have:=mono x u hx;cases x<;>first|exact this|cases bp
 have a3:v'= .slice none 0 0->E a n=none:=fun hv=>by rw[R,hv];rfl
 have ag: ∀(g cap:Nat) (cur:Array Value),v'= .slice (some ⟨g,0,none⟩) (A.elems.length+D.length) cap->w'.heap[g]?=some (.cells cur A.ty (0,0))->E a n=some (g,cap):=fun g cap cur hv _=>by rw[R,hv];rfl
 have a2:(A.elems++D).length=A.elems.length+D.length:=by simp
 have bx: ∀T,ρ a n=some T->T.1<w.heap.size:=fun T h=>bf (q.objs a n A ho) (b:=T.1) (c:=T.2) h
 refine⟨E,⟨?_,fun x y F B=>?_,fun x y x' y' F J b c c' B ba N ab=>?_,fun x y F b c B N=>?_,fun b S=>aas (q.bar b S) hg.size,fun x y F B=>?_⟩,Bq br mono,?_⟩
 ·refine⟨hg.os.trans q.keep.os,hg.tape.trans q.keep.tape,hg.output.trans q.keep.output,aaj q.keep.size hg.size,fun l hj hO=>?_⟩;rw[hg.block l (aas hj q.keep.size) (fun t=>?_)]
  ·exact q.keep.block l hj hO
  rw[ap]at t;cases M:ρ a n with
  |none=>rw[M]at t;cases t
  |some T=>
   rw[M]at t;simp at t;rcases(q.old a n A T.1 T.2 ho M).1 with h|h
   ·omega
   exact hO (t▸h)
 ·by_cases C:x=a/\y=n
  ·obtain⟨rfl,rfl⟩:=C;rw[W,if_pos rfl]at B;injection B with B
   subst B;refine Jz (o:={A with elems:=A.elems++D}) ac a2 q2 (fun e I=>?_) (Sd bt q1 (fun i e l z I Q=>?_) (fun i e l z I Q=>?_)) (fun h=>?_) ag a3
   ·rcases abe.1 I with I|I
    ·exact q1 e I
    exact bl e I
   ·obtain⟨u,u1,u2,u3⟩:=bw i e l z I Q;exact⟨u,u1,u2,al z u (bn e (u5 I) z (u5 Q)) u3⟩
   ·obtain⟨u,u1,u2,u3⟩:=a5 i e l z I Q;exact⟨u,u1,u2,al z u (hp e (u5 I) z (u5 Q)) u3⟩
   rcases ac.2 with⟨hv,_⟩|⟨g',cap,cur,hv,_,hh,_⟩
   ·exact hv
   rw[ag g' cap cur hv hh]at h;cases h
  obtain⟨J,L,V,g3,g4,g5⟩:=K x y F B C;have a1: ∀b c,ρ x y=some (b,c)->w'.heap[b]?=w.heap[b]?:=fun b c S=>hg.block b (bf (q.objs x y J L) S) (fun t=>by
   rw[ap]at t;cases M:ρ a n with
   |none=>rw[M]at t;cases t
   |some T=>
    rw[M]at t;simp at t;exact C (q.inj x y a n J A b c T.2 L ho S (by rw[M,t])))
  rcases g5 with⟨rfl,b1⟩|rfl
  ·have a7:=q.self x y F L;obtain⟨Y,z2,z3⟩:=q.objs x y F L;refine⟨Y,z2,?_⟩;rw[G x y C];cases M:ρ x y with
   |none=>rw[M]at z3;exact z3
   |some T=>
    obtain⟨b,c⟩:=T;rw[M]at z3;obtain⟨cells,p1,p2,p3,p4,p5⟩:=z3;refine⟨cells,by rw[a1 b c M];exact p1,p2,p3,p4,fun i e l z I Q=>?_⟩;obtain⟨u,u1,u2,u3⟩:=p5 i e l z I Q;refine⟨u,u1,u2,?_⟩;have hs:=a7 e (u5 I) z (u5 Q);have:=mono z u u3;cases z with
    |sl Y z2 bh len=>have hs:Y=x:=hs;have:k Y z2=false:=(by simp[k];omega);rename_i hm;simpa[aN,this] using hm
    |ptr Y z2 i l=>have hs:Y=x:=hs;have:k Y z2=false:=(by simp[k];omega);rename_i hm;simpa[aN,this] using hm
    |p z=>exact this
    |fn f Y qs=>have hs:Y=x:=hs.1;have: ∀y,k Y y=false:=(fun y=>by simp[k];omega);rename_i hm;simpa[aN,this] using hm
    |junk=>trivial
  obtain⟨Y,z2,z3⟩:=q.objs x y J L;refine⟨fun e I=>?_,z2,?_⟩
  ·simp only[jC,aai]at I;obtain⟨e',af,rfl⟩:=I;rw[aa0];exact Y e' af
  rw[G x y C];cases M:ρ x y with
  |none=>rw[M]at z3;simp[jC,z3]
  |some T=>
   obtain⟨b,c⟩:=T;rw[M]at z3;obtain⟨cells,p1,p2,p3,p4,p5⟩:=z3;refine⟨cells,by rw[a1 b c M];exact p1,p2,by simpa[jC] using p3,p4,fun i e l z I Q=>?_⟩;simp only[jC,u9]at I;obtain⟨e',af,rfl⟩:=u6.1 I;rw[u9]at Q;obtain⟨z',a8,rfl⟩:=u6.1 Q;obtain⟨u,u1,u2,u3⟩:=p5 i e' l z' af a8;exact⟨u,u1,u2,mono z' u u3⟩
 ·by_cases Z:x=a/\y=n
  ·obtain⟨rfl,rfl⟩:=Z;by_cases h2:x'=x/\y'=y
   ·omega
   exfalso;rw[R]at N;rw[G x' y' h2]at ab;obtain⟨av,L,_⟩:=K x' y' J ba h2;rcases ad b c N with⟨c0,aa⟩|hh
   ·have:=q.inj x' y' x y av A b c' c0 L ho ab aa;omega
   have:=bf (q.objs x' y' av L) ab;omega
  by_cases h2:x'=a/\y'=n
  ·exfalso;obtain⟨rfl,rfl⟩:=h2;rw[R]at ab;rw[G x y Z]at N;obtain⟨ae,L,_⟩:=K x y F B Z;rcases ad b c' ab with⟨c0,aa⟩|hh
   ·have:=q.inj x y x' y' ae A b c c0 L ho N aa;omega
   have:=bf (q.objs x y ae L) N;omega
  rw[G x y Z]at N;rw[G x' y' h2]at ab;obtain⟨ae,L,_⟩:=K x y F B Z;obtain⟨av,V,_⟩:=K x' y' J ba h2;exact q.inj x y x' y' ae av b c c' L V N ab
 ·by_cases Z:x=a/\y=n
  ·obtain⟨rfl,rfl⟩:=Z;rw[R]at N;rcases ad b c N with⟨c0,aa⟩|hh
   ·exact q.old x y A b c0 ho aa
   have:=q.keep.size;exact⟨.inl (by omega),fun hX=>by have:=q.bar b hX;omega⟩
  rw[G x y Z]at N;obtain⟨ae,L,_⟩:=K x y F B Z;exact q.old x y ae b c L N
 ·by_cases Z:x=a/\y=n
  ·obtain⟨rfl,rfl⟩:=Z;rw[W,if_pos rfl]at B;injection B with B
   subst B;intro e I z Q;rcases abe.1 I with I|I
   ·exact q.self x y A ho e I z Q
   exact cG (hp e I z Q)
  obtain⟨J,L,V,g3,g4,g5⟩:=K x y F B Z;rcases g5 with⟨rfl,_⟩|rfl
  ·exact q.self x y F L
  intro e I z Q;simp only[jC,aai]at I;obtain⟨e',af,rfl⟩:=I;simp only[aai]at Q;obtain⟨z',a8,rfl⟩:=Q;have:=q.self x y J L e' af z' a8;cases z' with
  |sl Y z2 bh len=>simp only[aN];split;trivial;exact this
  |ptr Y z2 i l=>simp only[aN];split;trivial;exact this
  |fn f Y qs=>simp only[aN];split;trivial;exact this
  |p z=>trivial
  |junk=>trivial
 exact JA (o:={A with elems:=A.elems++D}) ac a2 (by rw[W,if_pos rfl]) ag a3
end
end
section
section
variable {P:Program} {w0 w w':World} {O X:Nat->Prop} {ρ:Rho} {H:OH}
theorem j5 (x:AV):aN (fun _ _=>false) x=x:=by cases x<;>simp[aN]
theorem mN (t:TV):aP (fun _ _=>false) t=t:=by
 cases t with
 |one x=>simp[aP,j5]
 |agg b=>simp only[aP];congr 1;rw[show aN (fun _ _=>false)=id from funext j5];simp
 |fn f b=>simp only[aP];congr 1;rw[show aN (fun _ _=>false)=id from funext j5];simp
 |tup c=>simp only[aP];congr 1;rw[show aN (fun _ _=>false)=id from funext j5];simp
theorem ja (l:List TV):l.map (aP fun _ _=>false)=l:=by
 rw[show aP (fun _ _=>false)=id from funext mN];simp
theorem vu {d:Nat} {n:Rho} (u: ∀(r:Nat) o,t[r]?=some o->(x d)[r]?=some (renO d o)/\n d r=v 0 r) (z: ∀e,e<w.heap.size->c e->Xo b v (famH 0 t) e) (h:C.rel v (famH 0 t) (Xo b v (famH 0 t)) w j):(bY d C).rel n x c w j:=by
 refine gk (mb d) (fun C j A h=>?_) C j h;cases C with
 |fn=>cases A
 |p C=>exact bQ.weaken z h
 |sl a r B len=>
  obtain⟨o,l,q,s⟩:=h;by_cases m:a=0
  ·subst m;obtain⟨f1,f2⟩:=u r o l;exact⟨renO d o,f1,by simpa[renO] using q,nf (by decide) s f2⟩
  simp[famH,m]at l
 |ptr a r i g=>
  obtain⟨o,e,f,l,q,s,y⟩:=h;by_cases m:a=0
  ·subst m;obtain⟨f1,f2⟩:=u r o l;exact⟨renO d o,e,f,f1,by rw[f2];exact q,by simpa[renO] using s,y⟩
  simp[famH,m]at l
 |junk=>trivial
theorem o7 {d:Nat} (h:r.rel ρ H b w j) (B: ∀l j,l.rel ρ H b w j->AV.rel v x c w' (bY d l) j):(renTV d r).rel v x c w' j:=by
 have agg: ∀m j,bI ρ H b w m j->bI v x c w' (m.map (bY d)) j:=fun m j h=>by
  obtain⟨vs,o,p,A⟩:=h;refine⟨vs,o,by simpa using p,fun g l q=>?_⟩;rw[u9]at q;obtain⟨y,C,rfl⟩:=u6.1 q;obtain⟨u,D,n,E⟩:=A g y C;exact⟨u,D,n,B _ _ E⟩
 cases r with
 |one l=>exact B _ _ h
 |agg m=>exact agg m j h
 |fn f m=>obtain⟨u,o,p⟩:=h;exact⟨u,agg m u o,p⟩
 |tup I=>
  obtain⟨vs,o,p,A⟩:=h;refine⟨vs,o,by simpa using p,fun g e m q=>?_⟩;rw[u9]at q;obtain⟨y,C,s⟩:=u6.1 q;obtain⟨F,z⟩:=y;simp at s;obtain⟨rfl,rfl⟩:=s;obtain⟨u,D,n⟩:=A g F z C;refine⟨u,D,?_⟩;rcases n with⟨n,E⟩|⟨n,l,rfl,G⟩
  ·exact .inl ⟨n,agg _ _ E⟩
  exact .inr ⟨n,_,rfl,B _ _ G⟩
theorem LI (c:isPure C=true) (h:C.rel ρ H b w j):bQ b w (vO C) j:=by
 cases C<;>first|exact h|cases c
theorem Ag {own:Bool} (V: ∀(a n:Nat) (o:OObj),(H a)[n]?=some o->objRel ρ H b w a n o) (hZ: ∀g,c g->b g) (S:own=true-> ∀(a n:Nat) (o:OObj) (g l:Nat),(H a)[n]?=some o->ρ a n=some (g,l)-> ¬c g) (h:r.rel ρ H b w j) (y:dV own H r=true):
  (ib H r).rel (fun _ _=>none) (fun _=>[]) c w j:=by
 have wk: ∀x u,bQ b w x u->bQ c w x u:=fun x u h=>bQ.weaken (fun g _ hb=>hZ g hb) h
 unfold dV at y;split at y
 ·rename_i a n p len;simp only[aaF]at y;obtain⟨U,y⟩:=y;obtain⟨o,K,g2,g3⟩:=h;rw[K]at y;simp only[aah]at y;simp only[ib,K];show bQ _ _ _ _;obtain⟨q1,q2,q3⟩:=V a n o K;have T:(((o.elems.take (p+len)).drop p).map (List.map vO)).length=len:=by simp;omega
  rcases g3 with⟨M,L,gl,go⟩|⟨g,l,cap,M,L,aa,_⟩
  ·rw[abC.1 (T.trans gl),L];exact bQ.nil _ _
  by_cases F:len=0
  ·rw[abC.1 (T.trans F),L,F];exact bQ.nil _ _
  rw[M]at q3;obtain⟨cells,p1,p2,p3,p4,p5⟩:=q3;have G: ∀(i:Nat) e,(((o.elems.take (p+len)).drop p).map (List.map vO))[i]?=some e-> ∃C,o.elems[p+i]?=some C/\e=C.map vO:=fun i e B=>by
   rw[u9]at B;obtain⟨C,q,rfl⟩:=u6.1 B;rw[aaN,aaH]at q;split at q
   ·exact⟨C,q,rfl⟩
   cases q
  have A: ∀(i:Nat) e (m:Nat) x,(((o.elems.take (p+len)).drop p).map (List.map vO))[i]?=some e->e[m]?=some x-> ∃u:Value,cells[(p+i)*o.es+m]?=some u/\bQ c w x u:=fun i e m x B z=>by
   obtain⟨C,q,rfl⟩:=G i e B;rw[u9]at z;obtain⟨x',I,rfl⟩:=u6.1 z;obtain⟨u,D,E,J⟩:=p5 _ C m x' q I;exact⟨u,D,wk _ _ (LI (y C (u5 q) x' (u5 I)) J)⟩
  rw[L];have:=bQ.sl (X:=c) (w:=w) g (p*o.es) o.es cap (((o.elems.take (p+len)).drop p).map (List.map vO)) (fun i m=>(cells[(p+i)*o.es+m]?).getD undef) (S U a n o g l K M) (aan.1 p1).1
   (fun e B=>by
    simp only[aai]at B;obtain⟨C,q,rfl⟩:=B;rw[aa0];exact q1 C (abr (abq q))) (by omega) (by omega)
   (fun i e m x B z=>by
    obtain⟨u,D,_⟩:=A i e m x B z;rw[cell_of_row _ g _ cells o.ty (0,0) p1,<- abg,D];rfl)
   (fun i e m x B z=>by
    obtain⟨u,D,E⟩:=A i e m x B z;simp only[D,abh];exact E)
  rw[T]at this;exact this
 ·rename_i x;unfold ib;split
  ·rename_i s;cases s
  ·rename_i s;injection s with s
   injection s with s
   subst s;have:=(aV h).1;subst this;exact bQ.nil _ _
  exact wk _ _ h
 ·rename_i cs;simp only[aah]at y;obtain⟨vs,N,Q,R⟩:=h;refine⟨vs,N,Q,fun m x z=>?_⟩;obtain⟨u,D,E,J⟩:=R m x z;refine⟨u,D,E,?_⟩;have W:=y x (u5 z);cases x<;>first|exact wk _ _ J|cases W
 ·rename_i f cs;simp only[aah]at y;obtain⟨u0,⟨vs,N,Q,R⟩,h4⟩:=h;refine⟨u0,⟨vs,N,Q,fun m x z=>?_⟩,h4⟩;obtain⟨u,D,E,J⟩:=R m x z;refine⟨u,D,E,?_⟩;have W:=y x (u5 z);cases x<;>first|exact wk _ _ J|cases W
 cases y
theorem rm {own:Bool} (l: ∀(a f:Nat) (o:OObj),(H a)[f]?=some o->objRel ρ H b w a f o) (m: ∀e,c e->b e) (g:own=true-> ∀e,¬c e) (h:r.rel ρ H b w j) (n:dV own H r=true):
  (ib H r).rel (fun _ _=>none) (fun _=>[]) c w j:=
 Ag l m (fun h _ _ _ e _ _ _=>g h e) h n
end
end
section
section
variable {P:Program} {w0 w w':World} {O X:Nat->Prop} {ρ:Rho} {H:OH}
theorem dI:TV.rel ρ H b w .undef undef:=⟨#[],rfl,rfl,fun j c e h=>by simp at h⟩
theorem Ah {a:Nat} (h:Tk a C=true):bs a C:=by
 cases C with
 |sl b _ _ _=>have h:b=a:=(by simpa[Tk] using h);exact h
 |p C=>trivial
 |_=>cases h
theorem uA {a:Nat}: ∀{f:List AV} {e:List (Nat×Nat×Nat)},lI a f=some e->e.length=f.length/\ ∀(n:Nat) q,e[n]?=some q->f[n]?=some (.ptr a q.1 q.2.1 q.2.2)
 |[],e,h=>by simp only[lI]at h;injection h with h;subst h;exact⟨rfl,fun n q h=>by simp at h⟩
 |c::f,e,h=>by
  cases c with
  |ptr b r i j=>
   simp only[lI]at h;split at h
   ·rename_i p;subst p;obtain⟨l,s,rfl⟩:=u6.1 h;obtain⟨m,o⟩:=uA s;refine⟨by simp[m],fun n q g=>?_⟩;cases n with
    |zero=>simp at g;subst g;rfl
    |succ n=>simp at g⊢;exact o n q g
   cases h
  |_=>simp only[lI]at h;cases h
theorem Gq {a:Nat} {g:List AV} {e:List (Nat×Nat×Nat)} (y:lI a g=some e) (o:0<e.length) (h:(TV.fn u g).rel ρ H b w j):(AV.fn u a e).rel ρ H b w j:=by
 obtain⟨c,⟨vs,p,r,s⟩,t⟩:=h;subst p;obtain⟨l,m⟩:=uA y;refine⟨vs,t,r.trans l.symm,o,fun n q x=>?_⟩;obtain⟨c,z,B,A⟩:=s n _ (m n q x);exact⟨c,z,A⟩
theorem rZ {s:AS} {a:Act} (S:a.defers=[]) (E:a.tmps.size=s.tmps.length) (z:Inv w0 O X s.H ρ w) (F:aX X ρ s a w) {t:TypeId} {x:Operand} (ho:o.op= .store t p x) {r i j h:Nat} {g cs:List AV} (I:s.ev p=some (.one (.ptr n r i j))) (hn:ir P t=some h) (B:(s.H n)[r]?=some A) (he:A.elems[i]?=some g) (J:cs.length=h) (hj:j+h<=g.length) (hx:mD ρ s.H (Xo X ρ s.H) w cs (a.eval x).cells) (m: ∀y∈cs,bs n y) (hK: ∀v w',da w0 O X (AS.put ⟨s.tmps,aw s.H n ((s.H n).set r {A with elems:=A.elems.set i (putCells g j cs)})⟩ o.dst .undef) (a.put o.dst v) w'->f (a.put o.dst v) w'):o.wp P a w f e:=by
 obtain⟨aa,b,c,G,g2,g3,g4⟩:=be F p _ I;rw[B]at G;injection G with G
 subst G;obtain⟨R,U⟩:=hx;have L:(a.eval x).cells.toList.length=cs.length:=by simpa using R
 obtain⟨cells,V,W,Y,Z⟩:=Az S E z F (vs:=(a.eval x).cells.toList) (j:=j) B g2 he (by omega) L (fun k y M=>by
  obtain⟨u,q,N⟩:=U k y M;exact⟨u,by simpa using q,N⟩) m
 have C: ∀u∈(a.eval x).cells,u.oneCell'=true:=fun u hu=>by
  obtain⟨k,T,rfl⟩:=ad9 hu;obtain⟨y,M⟩:=getElem?_of_lt (l:=cs) (k:=k) (by rw[<- R];exact T);obtain⟨u,q,N,_⟩:=U k y M;rw[acZ T]at q;injection q with q
  rw[q];exact N
 have D:=uD (P:=P) (t:=t) (v:=a.eval x) (by rw[hn,R,J]) V (by simpa using W) C;unfold Oper.wp execOp;simp only[ho,g4];rw[Vi D];refine hK undef _ (eJ (ρ:=ρ) S E ?_ ?_ dI)
 ·simpa using Y
 simpa using Z
theorem Ge {a:Act} (h1:a.defers=[]) (R:a.tmps.size=s.tmps.length) (C:Inv w0 O X s.H ρ w) (D:aX X ρ s a w) {q:Fh} (h:gn P s.ev s.H o.op=some q) (Y: ∀v w',da w0 O X (AS.put ⟨s.tmps.map (aP q.k),q.H⟩ o.dst q.t) (a.put o.dst v) w'->f (a.put o.dst v) w'):o.wp P a w f e:=by
 cases ho:o.op<;>rw[ho]at h<;>simp only[gn]at h<;>try cases h
 case store t ad x=>
  split at h
  ·rename_i u r i j n G hn;split at h
   ·rename_i T F;split at h
    ·rename_i l he;split at h
     ·rename_i L r' ba len S;split at h
      ·rename_i J;subst J;split at h
       ·rename_i V;injection h with h
        subst h;simp only[ja]at Y;have I:=be D x _ S;have p:(a.eval x).oneCell'=true:=by
         obtain⟨_,_,_,U⟩:=I;rcases U with⟨_,U,_⟩|⟨_,_,_,_,U,_⟩<;>rw[U]<;>rfl
        refine rZ h1 R C D ho G hn F he (cs:=[.sl L r' ba len]) (by simp;omega) (by omega) ⟨by rw[fw p];rfl,fun k y E=>?_⟩ (fun y E=>by simp at E;subst E;rfl) Y;cases k with
        |succ k=>simp at E
        |zero=>simp at E;subst E;exact⟨a.eval x,by rw[fw p];rfl,p,I⟩
       cases h
      rename_i J;split at h
      ·rename_i o2 hH;split at h
       ·rename_i V;obtain⟨c0,c1,c2,c3,c4,c5,c6⟩:=V;injection h with h
        subst h;subst c1 c2;simp only[aah]at c6;obtain⟨m1,m2,m3⟩:=zV C (a:=u) (b:=L) c0 J hH c6;have a7:=Bq D m2;have I:=m3 _ _ _ (be D x _ S);have p:(a.eval x).oneCell'=true:=by
         obtain⟨_,_,_,U⟩:=I;rcases U with⟨_,U,_⟩|⟨_,_,_,_,U,_⟩<;>rw[U]<;>rfl
        have a3:r<(s.H u).length:=(aaf.1 F).1;have av:aw (aw s.H u (s.H u++[o2])) L [] u=s.H u++[o2]:=by rw[aD (abD J),aM]
        have a0:AS.ev ⟨s.tmps.map (aP fun x _=>x==L),aw (aw s.H u (s.H u++[o2])) L []⟩ ad=some (.one (.ptr u r i j)):=by
         cases ad with
         |tmp k=>
          simp only[AS.ev,u9]at G⊢;rw[G];simp[aP,aN,abD J]
         |const v=>exact G
         |global g=>exact G
         |func m=>exact G
        refine rZ (s:=⟨s.tmps.map (aP fun x _=>x==L),aw (aw s.H u (s.H u++[o2])) L []⟩) (a:=a) h1 (by simpa using R) m1 a7 ho a0 hn (by show(aw (aw s.H u (s.H u++[o2])) L [] u)[r]?=some T;rw[av,aal a3];exact F) he (cs:=[.sl u (s.H u).length 0 len]) (by simp;omega) (by omega) ⟨by rw[fw p];rfl,fun k y E=>?_⟩ (fun y E=>by simp at E;subst E;rfl) ?_
        ·cases k with
         |succ k=>simp at E
         |zero=>simp at E;subst E;exact⟨a.eval x,by rw[fw p];rfl,p,I⟩
        intro v w2 ae;refine Y v w2 ?_;have e1:aw (aw (aw s.H u (s.H u++[o2])) L []) u ((aw (aw s.H u (s.H u++[o2])) L [] u).set r {T with elems:=T.elems.set i (putCells l j [.sl u (s.H u).length 0 len])})=
          aw (aw s.H u ((s.H u).set r {T with elems:=T.elems.set i (putCells l j [.sl u (s.H u).length 0 len])}++[o2])) L []:=by
         funext z;rw[av];by_cases W:z=u
         ·subst W;rw[aM,aD (abD J),aM,List.set_append_left _ _ a3]
         rw[aD W];by_cases an:z=L
         ·subst an;rw[aM,aM]
         rw[aD an,aD W,aD an,aD W]
        simp only[e1]at ae;exact ae
       cases h
      cases h
     ·rename_i m cs S;split at h
      ·rename_i qs bm;split at h
       ·rename_i V;injection h with h
        subst h;simp only[ja]at Y;have I:=Gq bm V.2.2 (be D x _ S);have p:=FQ (by simp) I;refine rZ h1 R C D ho G hn F he (cs:=[.fn m u qs]) (by simp;omega) (by omega) ⟨by rw[fw p];rfl,fun k y E=>?_⟩ (fun y E=>by simp at E;subst E;exact⟨rfl,acv V.2.2⟩) Y;cases k with
        |succ k=>simp at E
        |zero=>simp at E;subst E;exact⟨a.eval x,by rw[fw p];rfl,p,I⟩
       cases h
      cases h
     ·rename_i v hv hv2 S;split at h
      ·rename_i cs bl;split at h
       ·rename_i V;obtain⟨c1,c2,c3⟩:=V;injection h with h
        subst h;simp only[ja]at Y;simp only[aah]at c3;exact rZ h1 R C D ho G hn F he c1 c2 (jw bl (be D x _ S)) (fun y E=>Ah (c3 y E)) Y
       cases h
      cases h
     cases h
    cases h
   cases h
  cases h
 case call c=>
  obtain⟨callee,⟨args⟩,⟨argTypes⟩⟩:=c;split at h
  ·rename_i sx x t t' Z M a8;simp only at Z M a8;subst Z M a8;split at h
   ·rename_i u r ba len a9 l hs S bp;split at h
    ·rename_i T z sz bb F hz a6 bc;split at h
     ·rename_i V;obtain⟨c0,rfl,rfl,rfl,c4,rfl,rfl,c7,c8,c9,ap⟩:=V;injection h with h
      subst h;simp only[aah]at c4;obtain⟨tx,bq,ag⟩:=aaw.1 S;have aa:=C.objs u r T F;have ac:0<T.es:=aa.2.1;obtain⟨us,af⟩:=xz C.objs ag (be D x tx bq) ap ac;obtain⟨xs,ab,bw,bt⟩:=Tq c0 aa F (be D sx _ hs);obtain⟨⟨A,cc,hv,bn⟩,br,p,b1,bh⟩:=id af;obtain⟨ti,zv,al,bR,bx⟩:=kK hz;obtain⟨b0,B,a5⟩:=r7 a6;rw[al]at B;injection B with B;subst B
      obtain⟨b0,B,a2⟩:=wH bc;rw[al]at B;injection B with B;subst B
      obtain⟨v',w1,a4,ah,hg,a1⟩:=lJ (P:=P) w 0 t o.type T.ty zv T.es bb (dH bp) (by rw[al];simp[bR,a5,a2]) (by rw[<- c9,<- bx];simp) ac _ _ xs ab A a9.length cc us bn br p (by unfold maxLen;omega) c7 (aaW _);obtain⟨b2,i1,i2,i3⟩:=FM C D F ap bw ab.1 bt af ah hg a1 (fun l he x S=>c4 l he x S);unfold Oper.wp execOp;have N:(execOp a.eval o).run P w= .ok (.value v') w1:=by
       unfold execOp;simp only[ho,resolve,invoke,builtin,aak,aaJ,aag,acI,aaC,aaR,hv,a4]
      unfold execOp at N;rw[N];exact Y v' w1 (eJ h1 (by simpa using R) i1 i2 i3)
     cases h
    cases h
   cases h
  cases h
end
end
section
section
variable {P:Program} {w0 w w':World} {O X:Nat->Prop} {ρ:Rho} {H:OH}
theorem lF {f : FuncId} (h : callable P f = true) : ∃ fn, P.funcs[f]? = some fn /\ fn.body.isNone = false /\ (fn.name == "runtime.NumGoroutine") = false := by
 unfold callable at h;split at h
 ·rename_i fn hf;simp only[aaF,Bool.not_eq_true']at h;exact⟨fn,hf,by cases hb:fn.body<;>simp_all,h.2⟩
 cases h
theorem f9 {e:Operand->Value} (n:o.op= .call z) (j:z.callee= .value (.func u)) (l:e (.func u)= .func (.func u) #[] #[]) (m:callable P u=true):
  (execOp e o).run P w= .ok (.enter u (z.args.map e)) w:=by
 obtain⟨p,b,g,h⟩:=lF m;unfold execOp;simp only[n,resolve,j,l,Deferred.ofValue,aak,aaJ,aag,invoke];unfold callFunc;simp only[aak];show Result.andThen (.ok P w) _=_;rw[aag,b];simp only[h,g,aa5,if_false]
 simp
theorem km {e:Operand->Value} {vs:Array Value} (n:o.op= .call z) (j:z.callee= .value p) (l:e p= .func (.func u) #[] vs) (m:callable P u=true):
  (execOp e o).run P w= .ok (.enter u (z.args.map e++vs)) w:=by
 obtain⟨q,b,g,h⟩:=lF m;unfold execOp;simp only[n,resolve,j,l,Deferred.ofValue,aak,aaJ,aag,invoke];unfold callFunc;simp only[aak];show Result.andThen (.ok P w) _=_;rw[aag,b];simp only[h,g,aa5,if_false]
 simp
theorem j8 {q:Option TV} {v:Value} {e:List TV} (p: ∀t,q=some t->t.rel ρ H b w v) (h:FU q=some (u,e)): ∃vs:Array Value,v= .func (.func u) #[] vs/\vs.size=e.length/\ ∀(j:Nat) t,e[j]?=some t-> ∃c:Value,vs[j]?=some c/\t.rel ρ H b w c:=by
 unfold FU at h;split at h
 ·rename_i z E;injection h with h
  injection h with h l
  subst h l;obtain⟨c,⟨vs,m,n,o⟩,C⟩:=p _ rfl;subst m;refine⟨vs,C,by simpa using n,fun j t g=>?_⟩;rw[u9]at g;obtain⟨y,r,rfl⟩:=u6.1 g;obtain⟨c,s,B,D⟩:=o j y r;exact⟨c,s,D⟩
 ·rename_i z a F;injection h with h
  injection h with h l
  subst h l;obtain⟨vs,m,n,_,o⟩:=p _ rfl;refine⟨vs,m,by simpa using n,fun j t g=>?_⟩;rw[u9]at g;obtain⟨y,r,rfl⟩:=u6.1 g;obtain⟨c,s,B⟩:=o j y r;exact⟨c,s,B⟩
 ·rename_i z first x
  split at h
  ·rename_i A;injection h with h
   injection h with h l
   subst h l;have:=(aV (p _ rfl)).1;simp only[aaF,adE]at A;obtain⟨rfl,rfl⟩:=A;exact⟨#[],this,rfl,fun j t g=>by simp at g⟩
  cases h
 cases h
theorem tC {d:Nat} (h:rC C=true) (g:C.rel ρ H b w j):(bY d C).rel v x c w' j:=by
 cases C with
 |p C=>
  cases C with
  |raw u=>
   obtain⟨rfl,f⟩:=aV (ρ:=ρ) (H:=H) g;exact bQ.raw _ f
  |sl n=>cases h
  |ptr m=>cases h
 |sl a r l len=>cases h
 |ptr a r i e=>cases h
 |junk=>cases h
 |fn=>cases h
theorem TD {d:Nat} (h:oz r=true) (C:r.rel ρ H b w j):(renTV d r).rel v x c w' j:=by
 have agg: ∀m j,m.all rC=true->bI ρ H b w m j->bI v x c w' (m.map (bY d)) j:=fun m j I h=>by
  simp only[aah]at I;obtain⟨vs,q,s,D⟩:=h;refine⟨vs,q,by simpa using s,fun g l z=>?_⟩;rw[u9]at z;obtain⟨y,A,rfl⟩:=u6.1 z;obtain⟨u,E,o,F⟩:=D g y A;exact⟨u,E,o,tC (I y (u5 A)) F⟩
 cases r with
 |one l=>exact tC h C
 |agg m=>exact agg m j h C
 |fn f m=>obtain⟨u,q,s⟩:=C;exact⟨u,agg m u h q,s⟩
 |tup K=>
  simp only[oz,aah]at h;obtain⟨vs,q,s,D⟩:=C;refine⟨vs,q,by simpa using s,fun g e m z=>?_⟩;rw[u9]at z;obtain⟨y,A,B⟩:=u6.1 z;obtain⟨G,p⟩:=y;simp at B;obtain⟨rfl,rfl⟩:=B;obtain⟨u,E,o⟩:=D g G p A;have n:=h (G,p) (u5 A);refine⟨u,E,?_⟩;rcases o with⟨o,F⟩|⟨o,l,rfl,J⟩
  ·exact .inl ⟨o,agg _ _ (by simpa only[aah] using n) F⟩
  exact .inr ⟨o,_,rfl,tC (n l (by simp)) J⟩
theorem l4 {it:cB P} {d:Nat} {a:Act} (h1:a.defers=[]) (L:a.tmps.size=s.tmps.length) (A:Inv w0 O X s.H ρ w) (M:aX X ρ s a w) (ht:renTV d it.res.r=r) (R:it.res.fam.map (renO d)=t) (hd:t≠[]->s.H d=[]) {v:Value} {w1:World} {ρc:Rho} (y:Inv w (fun _=>False) (if it.res.plain then(fun _=>False)else Xo X ρ s.H) (famH 0 it.res.fam) ρc w1) (S:it.res.r.rel ρc (famH 0 it.res.fam) (Xo (if it.res.plain then(fun _=>False)else Xo X ρ s.H) ρc (famH 0 it.res.fam)) w1 v):
  da w0 O X (iW s d r t) (a.put (some d) v) w1:=by
 have l:Ext w w1:=⟨y.keep.os,y.keep.tape,y.keep.output,y.keep.size,fun k hk=>y.keep.block k hk id⟩;by_cases B:it.res.plain=true
 ·unfold CallRes.plain at B;simp only[aaF,adc]at B;have o:t=[]:=by rw[<- R,B.1];rfl
  subst o;show da w0 O X (s.put (some d) r) _ _;refine eJ h1 L (A.grow l) (M.grow l) ?_;rw[<- ht];exact TD B.2 S
 have aa:it.res.plain=false:=by simpa using B
 simp only[aa,aa5,if_false]at y S;generalize ac:Xo X ρ s.H=Y at y S;have J: ∀b,Xo X ρ s.H b->Y b:=fun b K=>by rw[<- ac];exact K
 by_cases p:it.res.fam=[]
 ·rw[p]at y S;have o:t=[]:=by rw[<- R,p];rfl
  subst o;show da w0 O X (s.put (some d) r) _ _;refine eJ h1 L (A.grow l) (M.grow l) ?_;rw[<- ht];refine o7 S (fun x u T=>vu (fun c C f=>by simp at f) (fun b _ K=> .inl (J b K)) T)
 have o:t≠[]:=by rw[<- R];simpa using p
 have ab:iW s d r t=AS.put ⟨s.tmps,aw s.H d t⟩ (some d) r:=by
  unfold iW;rw[if_neg (by simpa using o)]
 rw[ab];have Z: ∀c b n,ρc 0 c=some (b,n)->(∃C,it.res.fam[c]?=some C)->w.heap.size<=b:=fun c b n E ⟨C,f⟩=>by
  have:=(y.old 0 c C b n (by simpa[famH] using f) E).1;rcases this with h|h
  ·exact h
  exact h.elim
 have q: ∀c b n,(if c<it.res.fam.length then ρc 0 c else none)=some (b,n)->(∃C,it.res.fam[c]?=some C)/\ρc 0 c=some (b,n):=fun c b n h=>by
  split at h
  ·rename_i ad;exact⟨⟨_,aau ad⟩,h⟩
  cases h
 have V: ∀(c b n:Nat),(if c<it.res.fam.length then ρc 0 c else none)=some (b,n)->w.heap.size<=b:=fun c b n h=>Z c b n (q c b n h).2 (q c b n h).1
 have I: ∀x u,AV.rel ρc (famH 0 it.res.fam) (Xo Y ρc (famH 0 it.res.fam)) w1 x u->AV.rel (newρ ρ d fun c=>if c<it.res.fam.length then ρc 0 c else none) (aw s.H d t) (Xo X (newρ ρ d fun c=>if c<it.res.fam.length then ρc 0 c else none) (aw s.H d t)) w1 (bY d x) u:=fun x u T=>by
  refine vu (fun c C f=>?_) (fun b _ K=>?_) T
  ·rw[aM,newρ_eq,if_pos (aaf.1 f).1,<- R,u9,f];exact⟨rfl,rfl⟩
  rcases K with K|⟨x',y',C,n,g1,Q⟩
  ·exact .inl (J b (.inl K))
  by_cases N:x'=d
  ·subst N;rw[newρ_eq]at Q;obtain⟨⟨U,m⟩,g3⟩:=q y' b n Q;exact .inr ⟨0,y',U,n,by simpa[famH] using m,g3⟩
  rw[aD N]at g1;rw[newρ_ne N]at Q;exact .inl (J b (.inr ⟨x',y',C,n,g1,Q⟩))
 refine BG h1 L A M l (hd o) (fun c=>if c<it.res.fam.length then ρc 0 c else none) V (fun c r' b n n' g g'=>?_) (fun c C f=>?_) (fun c C f=>?_) ?_
 ·obtain⟨⟨o1,ae⟩,g1⟩:=q c b n g;obtain⟨⟨U,m⟩,Q⟩:=q r' b n' g';exact(y.inj 0 c 0 r' o1 U b n n' (by simpa[famH] using ae) (by simpa[famH] using m) g1 Q).2
 ·rw[<- R,u9]at f;obtain⟨U,m,rfl⟩:=u6.1 f;intro e G x T;simp only[renO,aai]at G;obtain⟨e',D,rfl⟩:=G;simp only[aai]at T;obtain⟨x',ag,rfl⟩:=T;exact dv _ _
 ·rw[<- R,u9]at f;obtain⟨U,m,rfl⟩:=u6.1 f;have W:=y.objs 0 c U (by simpa[famH] using m);obtain⟨z1,z2,z3⟩:=W;refine⟨fun e G=>?_,z2,?_⟩
  ·simp only[renO,aai]at G;obtain⟨e',D,rfl⟩:=G;rw[aa0];exact z1 e' D
  rw[newρ_eq,if_pos (aaf.1 m).1];cases E:ρc 0 c with
  |none=>rw[E]at z3;simp[renO,z3]
  |some bc=>
   obtain⟨b,n⟩:=bc;rw[E]at z3;obtain⟨cells,p1,p2,p3,p4,p5⟩:=z3;refine⟨cells,p1,p2,by simpa[renO] using p3,p4,fun i e j z G hz=>?_⟩;simp only[renO,u9]at G;obtain⟨e',D,rfl⟩:=u6.1 G;rw[u9]at hz;obtain⟨z',af,rfl⟩:=u6.1 hz;obtain⟨u,u1,u2,u3⟩:=p5 i e' j z' D af;exact⟨u,u1,u2,I z' u u3⟩
 rw[<- ht];exact o7 S I
def Fg (P:Program) (f:FuncId) (args:List TV) (res:CallRes) (w:World):Prop:=
 callable P f=true/\ ∀(X:Nat->Prop) (vs:Array Value),(∀b,X b->b<w.heap.size)->vs.size=args.length->
  (∀(j:Nat) t,args[j]?=some t-> ∃v:Value,vs[j]?=some v/\t.rel (fun _ _=>none) (fun _=>[]) X w v)->
  Calls P f vs w fun e w'=> ∃v,e= .returned v/\ ∃ρ:Rho,
   Inv w (fun _=>False) X (famH 0 res.fam) ρ w'/\res.r.rel ρ (famH 0 res.fam) (Xo X ρ (famH 0 res.fam)) w' v
def ms (P:Program) (b:List (cB P)) (w:World):Prop:= ∀c∈b,Fg P c.f c.args c.res w
theorem gP.at {b:List (cB P)} (h:gP P b) (w:World):ms P b w:=fun e c=>⟨(h e c).1,fun X vs=>(h e c).2 X w vs⟩
theorem Sh {B:List (cB P)} {i d:Nat} {a:Act} (hI:ms P B w) (h1:a.defers=[]) (R:a.tmps.size=s.tmps.length) (p:Inv w0 O X s.H ρ w) (L:aX X ρ s a w) (Z:o.op= .call z) (C:z.callee= .value (.func u)) (h:b9 P B q i d s.ev s.H o.op=some (r,t)) (hd:t≠[]->s.H d=[]) (G:o.dst=some d) (hK: ∀v w',da w0 O X (iW s d r t) (a.put o.dst v) w'->f (a.put o.dst v) w'):o.wp P a w f e:=by
 rw[Z]at h;simp only[b9,C]at h;split at h
 ·rename_i U ts N S;split at h
  ·rename_i hc;obtain⟨c1,V,W,_⟩:=hc;injection h with h
   injection h with ht hF
   subst c1;obtain⟨e1,e2⟩:=bP S;obtain⟨m,E⟩:=hI U (adB N);have I:=f9 (w:=w) Z C (e:=a.eval) rfl m;unfold Oper.wp;rw[I];simp only[Oper.upon];simp only[aah]at W;have Y: ∀b,(if U.res.plain then(fun _=>False)else Xo X ρ s.H:Nat->Prop) b->Xo X ρ s.H b:=fun b A=>by
    split at A
    ·exact A.elim
    exact A
   have D: ∀b,Xo X ρ s.H b->b<w.heap.size:=fun b A=>by
    rcases A with A|⟨x,y,o',n,g1,g2⟩
    ·exact p.bar b A
    exact bf (p.objs x y o' g1) g2
   refine(E (if U.res.plain then(fun _=>False)else Xo X ρ s.H) (z.args.map a.eval) (fun b A=>D b (Y b A)) ?_ ?_).mono ?_
   ·rw[<- V];simp[e1]
   ·intro j l hu;rw[<- V,u9]at hu;obtain⟨t0,J,rfl⟩:=u6.1 hu;obtain⟨x,hx,T⟩:=e2 j t0 J;refine⟨a.eval x,by rw[aaS];simp at hx;rw[hx];rfl,?_⟩;exact rm p.objs Y (fun M b A=>by rw[M]at A;exact A) (be L x t0 T) (W t0 (u5 J))
   rintro g w1 ⟨v,rfl,aa,hi,hr⟩;show f (a.put o.dst v) w1;refine hK v w1 ?_;rw[G];exact l4 h1 R p L ht hF hd hi hr
  cases h
 cases h
theorem NH {C:List (cB P)} {i d:Nat} {a:Act} (hI:ms P C w) (h1:a.defers=[]) (W:a.tmps.size=s.tmps.length) (m:Inv w0 O X s.H ρ w) (I:aX X ρ s a w) {k:Tmp} (ho:o.op= .call z) (D:z.callee= .value (.tmp k)) (h:b9 P C q i d s.ev s.H o.op=some (r,t)) (hd:t≠[]->s.H d=[]) (N:o.dst=some d) (hK: ∀v w',da w0 O X (iW s d r t) (a.put o.dst v) w'->f (a.put o.dst v) w'):o.wp P a w f e:=by
 rw[ho]at h;simp only[b9,D]at h;split at h
 ·rename_i l S it ts U V Y;split at h
  ·rename_i hc;obtain⟨c1,c2,c3,_⟩:=hc;injection h with h
   injection h with ht hF
   subst c1;obtain⟨J,e2⟩:=bP Y;obtain⟨us,k1,k2,k3⟩:=j8 (v:=a.eval (.tmp k)) (fun t0 B=>be I (.tmp k) t0 B) U;obtain⟨A,M⟩:=hI it (adB V);have R:=km (w:=w) ho D (e:=a.eval) k1 A;unfold Oper.wp;rw[R];simp only[Oper.upon];simp only[aah]at c3;have T: ∀b,(if it.res.plain then(fun _=>False)else Xo X ρ s.H:Nat->Prop) b->Xo X ρ s.H b:=fun b p=>by
    split at p
    ·exact p.elim
    exact p
   have L: ∀b,Xo X ρ s.H b->b<w.heap.size:=fun b p=>by
    rcases p with p|⟨x,y,o',n,g1,g2⟩
    ·exact m.bar b p
    exact bf (m.objs x y o' g1) g2
   refine(M (if it.res.plain then(fun _=>False)else Xo X ρ s.H) (z.args.map a.eval++us) (fun b p=>L b (T b p)) ?_ ?_).mono ?_
   ·rw[<- c2];simp[J,k2]
   ·intro j u hu;rw[<- c2,u9]at hu;obtain⟨t0,B,rfl⟩:=u6.1 hu;have E:=c3 t0 (u5 B);by_cases hj:j<ts.length
    ·rw[aal hj]at B;obtain⟨x,hx,Z⟩:=e2 j t0 B;refine⟨a.eval x,by rw[aaz (by simp at J⊢;omega),aaS];simp at hx;rw[hx];rfl,?_⟩;exact rm m.objs T (fun G b p=>by rw[G]at p;exact p) (be I x t0 Z) E
    rw[aap (by omega)]at B;obtain⟨v,v1,v2⟩:=k3 _ t0 B;refine⟨v,by rw[aaM (by simp at J⊢;omega)];simp at J⊢;rw[<- J];exact v1,?_⟩;exact rm m.objs T (fun G b p=>by rw[G]at p;exact p) v2 E
   rintro g w1 ⟨v,rfl,aa,hi,hr⟩;show f (a.put o.dst v) w1;refine hK v w1 ?_;rw[N];exact l4 h1 W m I ht hF hd hi hr
  cases h
 cases h
theorem KA {G:List (cB P)} {i d:Nat} {a:Act} (h1:a.defers=[]) (ad:a.tmps.size=s.tmps.length) (u:Inv w0 O X s.H ρ w) (E:aX X ρ s a w) (ho:o.op= .call z) (m:z.callee= .builtin .append) (h:b9 P G q i d s.ev s.H o.op=some (r,t)) (hd:t≠[]->s.H d=[]) (M:o.dst=some d) (hK: ∀v w',da w0 O X (iW s d r t) (a.put o.dst v) w'->f (a.put o.dst v) w'):o.wp P a w f e:=by
 rw[ho]at h;simp only[b9,m]at h;obtain⟨callee,⟨args⟩,⟨argTypes⟩⟩:=z;simp only at m;subst m;split at h
 ·rename_i sx x ty ap l U;simp only at l U;subst l U;split at h
  ·rename_i V b hs hx ab;split at h
   ·rename_i g sz W hz T Y;split at h
    ·rename_i hc;obtain⟨rfl,c7,c8,c9,p,I⟩:=hc;injection h with h
     injection h with ht hF
     subst ht hF;obtain⟨tx,ae,B⟩:=aaw.1 hx;obtain⟨us,y⟩:=xz u.objs B (be E x tx ae) I p;have ac:=(aV (be E sx _ hs)).1;obtain⟨⟨A,cc,hv,aa⟩,af,N,an,Z⟩:=id y;obtain⟨ti,zv,D,ah,ag⟩:=kK hz;obtain⟨al,j,S⟩:=r7 T;rw[D]at j;injection j with j;subst j
     obtain⟨al,j,L⟩:=wH Y;rw[D]at j;injection j with j;subst j
     obtain⟨v',w1,R,n,hg,J⟩:=lJ (P:=P) w 0 ty o.type b zv sz W (dH ab) (by rw[D];simp[ah,S,L]) (by rw[<- c9,<- ag];simp) p (.slice none 0 0) 0 [] (acT _ _ _ _) A V.length cc us aa af N (by unfold maxLen;omega) (by rw[aaO];exact c7) (aaW _);have C:(execOp a.eval o).run P w= .ok (.value v') w1:=by
      unfold execOp;simp only[ho,resolve,invoke,builtin,aak,aaJ,aag,acI,aaC,aaR,hv,ac,R]
     unfold Oper.wp;rw[C];rw[aaO,ab4]at n;refine hK v' w1 ?_;rw[M];exact FL h1 ad u E (hd (by simp)) p I y n hg J
    cases h
   cases h
  cases h
 cases h
theorem I1 {C:List (cB P)} {i d:Nat} {a:Act} (L:ms P C w) (E:a.defers=[]) (z:a.tmps.size=s.tmps.length) (u:Inv w0 O X s.H ρ w) (A:aX X ρ s a w) (h:b9 P C q i d s.ev s.H o.op=some (r,t)) (G:t≠[]->s.H d=[]) (B:o.dst=some d) {Q:Exit->Act->World->Prop} (J: ∀v w',da w0 O X (iW s d r t) (a.put o.dst v) w'->f (a.put o.dst v) w'):o.wp P a w f Q:=by
 have D:(∃v w',(execOp a.eval o).run P w= .ok (.value v) w'/\da w0 O X (iW s d r t) (a.put (some d) v) w')->o.wp P a w f Q:=fun⟨v,w1,g1,g2⟩=>by
  unfold Oper.wp;rw[g1];exact J v w1 (by rw[B];exact g2)
 have ne: ∀{e:OObj} {l:List OObj},e::l≠[]:=fun{e l}=>by simp
 cases y:o.op
 case box e x=>
  refine D (N1 E z u A y h (G ?_));rw[y]at h;simp only[b9]at h;split at h
  ·split at h
   ·injection h with h;injection h with h I;rw[<- I];simp
   cases h
  cases h
 case alloc e=>
  refine D (F9 E z u A y h (G ?_));rw[y]at h;simp only[b9]at h;split at h
  ·split at h
   ·injection h with h;injection h with h I;rw[<- I];simp
   cases h
  cases h
 case makeSlice ty l c=>
  refine D (KQ E z u A y h (G ?_));rw[y]at h;simp only[b9]at h;split at h
  ·split at h
   ·split at h
    ·injection h with h;injection h with h I;rw[<- I];simp
    cases h
   cases h
  cases h
 case buildSlice ty n parts=>exact D (N3 E z u A y h G)
 case call c=>
  cases p:c.callee with
  |value x=>
   cases x with
   |func g=>exact Sh L E z u A y p h G B J
   |tmp k=>exact NH L E z u A y p h G B J
   |const k=>rw[y]at h;simp only[b9,p]at h;cases h
   |global k=>rw[y]at h;simp only[b9,p]at h;cases h
  |invoke j m=>rw[y]at h;simp only[b9,p]at h;cases h
  |builtin b=>
   cases b
   case append=>exact KA E z u A y p h G B J
   all_goals (rw[y]at h;simp only[b9,p]at h;cases h)
 all_goals (rw[y]at h;simp only[b9]at h;cases h)
theorem C0 {m:List (cB P)} {i:Nat} {a:Act} (B:ms P m w) (x:da w0 O X s a w) (h:dG P m q i o s=some l) (n: ∀v w',da w0 O X l (a.put o.dst v) w'->f (a.put o.dst v) w'):o.wp P a w f e:=by
 obtain⟨r,j,ρ,c,g⟩:=x;have g:aX X ρ s a w:=g;unfold dG at h;split at h
 ·obtain⟨t,p,rfl⟩:=u6.1 h;obtain⟨v,z,A⟩:=wZ (be g) p;unfold Oper.wp;rw[z];exact n v w (eJ r j c g A)
 split at h
 ·obtain⟨t,p,rfl⟩:=u6.1 h;obtain⟨v,z,A⟩:=xa (be g) c.objs p;unfold Oper.wp;rw[z];exact n v w (eJ r j c g A)
 split at h
 ·rename_i b G;injection h with h
  subst h;exact Ge r j c g G n
 split at h
 ·cases h
 rename_i d u;split at h
 ·rename_i t p;injection h with h
  subst h;refine I1 B r j c g p (fun E=>absurd rfl E) u ?_;rw[u]at n⊢;exact n
 ·rename_i t F C p;split at h
  ·rename_i D;injection h with h
   subst h;refine I1 B r j c g p (fun _=>D) u ?_;have y:iW s d t F=AS.put ⟨s.tmps,aw s.H d F⟩ (some d) t:=by
    unfold iW;rw[if_neg (by intro h;exact C (adc.1 h))]
   rw[y,u];rw[u]at n;exact n
  cases h
 cases h
theorem tY {j:List (cB P)} {i:Nat} {a:Act} (F:ms P j w) (c:da w0 O X s a w) (h:aS P j q y i o s=some l) (x: ∀v w',da w0 O X l (a.put o.dst v) w'->f (a.put o.dst v) w'):
  if Region.wanted o (yielded y a.tmps)then o.wp P a w f e else f (a.put o.dst undef) w:=by
 unfold aS at h;split at h
 ·rename_i t;rw[if_pos (by simp[Region.wanted,t])];exact C0 F c h x
 rename_i g I t;split at h
 ·cases h
 rename_i d G;have r:=c;obtain⟨E,u,ρ,n,m⟩:=c;split at h
 ·rename_i b A;obtain⟨v,C,B⟩:=m d _ A;have D:=(aV B).1;have z:yielded y a.tmps g=some b:=by
   unfold yielded;rw[G];simp only[aa8,C,D]
  split at h
  ·rename_i p;rw[if_pos (by simp[Region.wanted,t,z,p])];exact C0 F r h x
  rename_i p;rw[if_neg (by simp[Region.wanted,t,z,p])];injection h with h
  subst h;exact x undef w (eJ E u n m dI)
 ·rename_i A;obtain⟨v,C,vs,B,J,_⟩:=m d _ A;have z:yielded y a.tmps g=none:=by
   unfold yielded;rw[G];simp only[aa8,C,B]
  rw[if_neg (by simp[Region.wanted,t,z])];injection h with h
  subst h;exact x undef w (eJ E u n m dI)
 cases h
theorem iZ {b:List (cB P)} {i:Nat} {a:Act} (e:gP P b) (c:da w0 O X s a w) (h:aS P b q y i o s=some l) {K:Act->World->Prop} {Q:Exit->Act->World->Prop} (f: ∀v w',da w0 O X l (a.put o.dst v) w'->K (a.put o.dst v) w'):
  if Region.wanted o (yielded y a.tmps)then o.wp P a w K Q else K (a.put o.dst undef) w:=tY (e.at w) c h f
end
end
section
def bo (P:Program) (c:Code) (Q:Exit->AS->Prop) (s:AS):Prop:=
 ∀(f:World) (O X:Nat->Prop) (a:Act) (w:World),da f O X s a w->c.wp P (fun e g h=> ∃b,Q e b/\da f O X b g h) a w
def bD (s c:AS):Prop:= ∀(b:World) (O X:Nat->Prop) (a:Act) (w:World),da b O X s a w->da b O X c a w
def iP (next:AS->Prop) (Q:Exit->AS->Prop):Exit->AS->Prop
 | .normal,s=>next s
 |e,s=>Q e s
def mG (id:Nat) (Q:Exit->AS->Prop):Exit->AS->Prop
 | .exit b,s=>if b=id then Q .normal s else Q (.exit b) s
 |e,s=>Q e s
section
variable {P:Program} {s s':AS} {Q:Exit->AS->Prop}
theorem bD.refl (s:AS):bD s s:=fun _ _ _ _ _ h=>h
theorem bD.trans {b:AS} (h:bD s l) (k:bD l b):bD s b:=fun _ _ _ _ _ r=>k _ _ _ _ _ (h _ _ _ _ _ r)
theorem bo.weak (h:bD s s') (k:bo P g Q s'):bo P g Q s:=fun _ _ _ _ _ r=>k _ _ _ _ _ (h _ _ _ _ _ r)
theorem bo.mono {b:Exit->AS->Prop} (h:bo P g Q s) (k: ∀e s',Q e s'->b e s'):bo P g b s:=fun _ _ _ _ _ r=>
 wp_mono (h _ _ _ _ _ r) fun _ _ _ ⟨s',f,j⟩=>⟨s',k _ _ f,j⟩
theorem ak (h:Q .normal s):bo P .skip Q s:=fun _ _ _ _ _ r=>wp_skip ⟨s,h,r⟩
theorem aY {id:Nat} (h:Q (.exit id) s):bo P (.exit id) Q s:=fun _ _ _ _ _ r=>wp_exit ⟨s,h,r⟩
theorem aW (h:Q .ret s):bo P .ret Q s:=fun _ _ _ _ _ r=>wp_ret ⟨s,h,r⟩
theorem ai (b:bo P g (iP (bo P h Q) Q) s):bo P (.seq g h) Q s:=fun _ _ _ _ _ r=>
 wp_seq (wp_mono (b _ _ _ _ _ r) fun e a w ⟨s',c,f⟩=>by
  cases e with
  |normal=>exact c _ _ _ _ _ f
  |_=>exact⟨s',c,f⟩)
theorem am {id:Nat} (h:bo P g (mG id Q) s):bo P (.block id g) Q s:=fun _ _ _ _ _ r=>
 wp_block (wp_mono (h _ _ _ _ _ r) fun e a w ⟨s',b,c⟩=>by
  cases e with
  |exit f=>
   simp only[mG]at b;simp only[Exit.inBlock];split at b
   ·rename_i hid;rw[if_pos hid];exact⟨s',b,c⟩
   rename_i hid;rw[if_neg hid];exact⟨s',b,c⟩
  |_=>exact⟨s',b,c⟩)
theorem aZ {b:Bool} (m:s.ev p=some (.raw (.bool b))) (q:b=true->bo P g Q s) (n:b=false->bo P h Q s):bo P (.cond p g h) Q s:=fun _ _ _ _ _ r=>by
 obtain⟨t,o,u,j,f⟩:=id r;have l:=(aV (be f p _ m)).1;exact wp_cond_split l (fun e=>q e _ _ _ _ _ r) (fun e=>n e _ _ _ _ _ r)
theorem aC (e:s.ev p=some (.raw (.bool true))) (b:bo P g Q s):bo P (.cond p g h) Q s:=aZ e (fun _=>b) (fun b=>by cases b)
theorem aq (e:s.ev p=some (.raw (.bool false))) (b:bo P h Q s):bo P (.cond p g h) Q s:=aZ e (fun b=>by cases b) (fun _=>b)
theorem bi (e:s.ev p=some (.raw (.bool true))) (b:bo P h Q s):bo P (.seq (.cond p .skip g) h) Q s:=ai (aC e (ak b))
theorem bv {id:Nat} (e:s.ev p=some (.raw (.bool false))) (b:Q (.exit id) s):bo P (.seq (.cond p g (.exit id)) h) Q s:=ai (aq e (aY b))
theorem bJ (h: ∃n,b n): ∃n,b n/\ ∀m,b m->n<=m:=by
 obtain⟨n,j⟩:=h
 induction n using Nat.strongRecOn with
 |_ n o=>
  by_cases e: ∃m,m<n/\b m
  ·obtain⟨m,f,g⟩:=e;exact o m f g
  exact⟨n,j,fun m l=>ade fun c=>e ⟨m,c,l⟩⟩
theorem CN {G:Type} (St:G->AS) (q:G->Nat) (y:G) (D:bD s (St y)) (round: ∀b,bo P g (iP (fun s'=> ∃j,q j<q b/\bD s' (St j)) Q) (St b)):bo P (.loop g) Q s:=fun J O X a w r=>by
 classical
 let p:Act->World->Nat->Prop:=fun a w n=> ∃b,q b=n/\da J O X (St b) a w
 let m:Act->World->Nat:=fun a w=>if h: ∃n,p a w n then Classical.choose (bJ h)else 0
 refine wp_loop (fun a w=> ∃n,p a w n) m ⟨_,y,rfl,D _ _ _ _ _ r⟩ ?_;intro a w t;have F:m a w=Classical.choose (bJ t):=dif_pos t;obtain⟨B,o⟩:=abG (bJ t);rw[<- F]at B;obtain⟨b,K,H⟩:=B;refine wp_mono (round b _ _ _ _ _ H) fun e x C ⟨s',z,A⟩=>?_
 cases e with
 |normal=>
  obtain⟨j,E,I⟩:=z;have l:=I _ _ _ _ _ A;have f: ∃n,p x C n:=⟨_,j,rfl,l⟩;refine⟨f,?_⟩;have v:m x C=Classical.choose (bJ f):=dif_pos f;obtain⟨_,u⟩:=abG (bJ f);have:=u (q j) ⟨j,rfl,l⟩;rw[v];omega
 |_=>exact⟨s',z,A⟩
theorem ic {b:List (cB P)} (p:gP P b) {z:List Nat} {c:Array Oper} {t:World} {O X:Nat->Prop} {Q:Exit->Act->World->Prop}: ∀(l:List Oper) (k:Nat) (s s':AS) (a:Act) (w:World),(∀(j:Nat) o,l[j]?=some o->c[k+j]?=some o)->
  f7 P b z c (l.zipIdx k) s=some s'->da t O X s a w->(∀n m,da t O X s' n m->Q .normal n m)->wpOps P c Q (List.range' k l.length) a w
 |[],k,s,s',a,w,_,h,r,e=>by
  simp only[acw,f7]at h;injection h with h
  subst h;exact e a w r
 |o::l,k,s,s',a,w,q,h,r,e=>by
  simp only[abO,f7]at h;split at h
  ·rename_i A f;simp only[aaG,aa1,wpOps];have x:c[k]?=some o:=by have:=q 0 o rfl;simpa using this
   rw[x];simp only;have:=iZ (Q:=Q) p r f (K:=wpOps P c Q (List.range' (k+1) l.length)) (fun v m y=>ic p l (k+1) A s' _ _ (fun j o u=>by have:=q (j+1) o (by simpa using u);rwa[show k+(j+1)=k+1+j by omega]at this) h y e);split at this
   ·rename_i g;rw[if_pos g];exact .inl this
   rename_i g;rw[if_neg g];exact this
  cases h
theorem Fq (b:List (cB P)) (g:gP P b) (p:List Nat) {id:Nat} (h:f7 P b p y y.toList.zipIdx s=some s') (l:Q .normal s'):bo P (.region id y false) Q s:=fun q O X a w r=>by
 refine wp_region ?_;rw[aax];have:=ic g (Q:=fun e c f=> ∃s',Q e s'/\da q O X s' c f) y.toList 0 s s' a w (fun j o m=>by simpa using m) h r (fun c f n=>⟨s',l,n⟩);simpa using this
end
/-! ### The end of a function -/
def tD (P:Program) (s:AS):ResultVar->Option TV
 | .tmp t=>s.tmps[t]?
 | .cell a t=>match s.tmps[a]? with
  |some (.one (.ptr b r i j))=>match(s.H b)[r]? with
   |some o=>match o.elems[i]? with
    |some e=>nw P t (e.drop j)
    |none=>none
   |none=>none
  |_=>none
def Cn:TV->Option (Bool×List AV)
 | .one x=>some (false,[x])
 | .agg b=>some (true,b)
 | .tup _=>none
 | .fn _ _=>none
def xY (P:Program) (s:AS):List ResultVar->Option (List (Bool×List AV))
 |[]=>some []
 |r::l=>match(tD P s r).bind Cn,xY P s l with
  |some t,some b=>some (t::b)
  |_,_=>none
def pj (P:Program) (s:AS):List ResultVar->Option TV
 |[r]=>tD P s r
 |rs=>(xY P s rs).map TV.tup
section
variable {P:Program} {w0 w:World} {O X:Nat->Prop} {ρ:Rho} {s:AS}
def xG (tmps:Array Value):ResultVar->Sem Value
 | .tmp t=>pure (tmps.getD t undef)
 | .cell b t=>do loadVar t (<- asAddr (tmps.getD b undef))
theorem G4 (b:Func) (tmps:Array Value):results b tmps=(do let vs<- b.results.mapM (xG tmps);pure (if h:vs.size=1 then vs[0]else .tuple vs)):=by
 have h: ∀(f g:ResultVar->Sem Value),f=g->(do let vs<- b.results.mapM f;pure (if h:vs.size=1 then vs[0]else .tuple vs):Sem Value)=(do let vs<- b.results.mapM g;pure (if h:vs.size=1 then vs[0]else .tuple vs)):=fun f g h=>by rw[h]
 unfold results;apply h;funext x;cases x<;>rfl
theorem rH {a:Act} (g:Inv w0 O X s.H ρ w) (l:aX X ρ s a w) {n:ResultVar} (h:tD P s n=some r):
  ∃v,(xG a.tmps n).run P w= .ok v w/\r.rel ρ s.H (Xo X ρ s.H) w v:=by
 cases n with
 |tmp k=>
  simp only[tD]at h;obtain⟨v,m,A⟩:=l k r h;exact⟨v,by simp[xG,abI,m],A⟩
 |cell q G=>
  simp only[tD]at h;split at h
  ·rename_i x f i j C;obtain⟨v,m,o,b,c,p,y,F,z⟩:=l q _ C;rw[p]at h;simp only at h;split at h
   ·rename_i e B;obtain⟨u,D,E⟩:=pX h (mH (Ai (g.objs x f o p) y B) j);refine⟨u,?_,E⟩;simp only[xG,abI,m,abh,z,asAddr,aak,aaJ,aag,D]
   cases h
  cases h
theorem xZ {a:Act} (e:Inv w0 O X s.H ρ w) (n:aX X ρ s a w): ∀{q:List ResultVar} {m:List (Bool×List AV)},xY P s q=some m->
  ∃vs:List Value,(q.mapM (xG a.tmps)).run P w= .ok vs w/\vs.length=m.length/\
   ∀(j:Nat) b c,m[j]?=some (b,c)-> ∃u:Value,vs[j]?=some u/\((b=true/\bI ρ s.H (Xo X ρ s.H) w c u)\/(b=false/\ ∃x,c=[x]/\x.rel ρ s.H (Xo X ρ s.H) w u))
 |[],m,h=>by
  simp only[xY]at h;injection h with h
  subst h;exact⟨[],by simp,rfl,fun j b c h=>by simp at h⟩
 |r::l,m,h=>by
  simp only[xY]at h;split at h
  ·rename_i t E C D;injection h with h
   subst h;obtain⟨F,p,g⟩:=aaw.1 C;obtain⟨v,J,y⟩:=rH e n p;obtain⟨vs,z,A,B⟩:=xZ e n D;refine⟨v::vs,?_,by simp[A],fun j b c o=>?_⟩
   ·rw[List.mapM_cons,aak,J,aag,aak,z];rfl
   cases j with
   |succ j=>simp at o;obtain⟨u,G,I⟩:=B j b c o;exact⟨u,by simpa using G,I⟩
   |zero=>
    simp at o;subst o;refine⟨v,rfl,?_⟩;cases F with
    |one x=>simp[Cn]at g;obtain⟨rfl,rfl⟩:=g;exact .inr ⟨rfl,x,rfl,y⟩
    |agg c=>simp[Cn]at g;obtain⟨rfl,rfl⟩:=g;exact .inl ⟨rfl,y⟩
    |tup m=>cases g
    |fn f c=>cases g
  cases h
theorem eA {a:Act} (e:Inv w0 O X s.H ρ w) (m:aX X ρ s a w) (h:pj P s B.results.toList=some r): ∃v,(results B a.tmps).run P w= .ok v w/\r.rel ρ s.H (Xo X ρ s.H) w v:=by
 rw[G4,Array.mapM_eq_mapM_toList];generalize G:B.results.toList=f at h;unfold pj at h;split at h
 ·rename_i c;obtain⟨v,K,L⟩:=rH e m h;refine⟨v,?_,L⟩;simp only[List.mapM_cons,List.mapM_nil,map_eq_pure_bind,aak,K,aag,aaJ]
  simp
 rename_i p;cases o:xY P s f with
 |none=>rw[o]at h;cases h
 |some n=>
  rw[o]at h;simp at h;subst h;obtain⟨vs,y,z,A⟩:=xZ e m o;refine⟨.tuple vs.toArray,?_,vs.toArray,rfl,by simpa using z,fun j b x E=>by simpa using A j b x E⟩;have g: ∀{f:List ResultVar} {n:List (Bool×List AV)},xY P s f=some n->n.length=f.length:=by
   intro f
   induction f with
   |nil=>intro n h;simp only[xY]at h;injection h with h;subst h;rfl
   |cons c l I=>
    intro n h;simp only[xY]at h;split at h
    ·rename_i r J C D;injection h with h
     subst h;simp[I D]
    cases h
  have u:vs.length≠1:=fun C=>by
   have:=g o;have q:f.length=1:=by omega
   obtain⟨c,F⟩:=adX.1 q;exact p c F
  simp only[map_eq_pure_bind,aak,y,aag,aaJ];rw[dif_neg (by simpa using u)]
def selfTV (a:Nat):TV->Prop
 | .one x=>bs a x
 | .agg b=> ∀x∈b,bs a x
 | .fn _ b=> ∀x∈b,bs a x
 | .tup c=> ∀t∈c,∀x∈t.2,bs a x
def uE (H:OH) (b:Nat) (r:TV):Prop:=match Nat.ble b 4999 with
 |true=>selfTV b r
 |false=>selfTV b r/\H b=[]
theorem yj (h:uE x n r):selfTV n r/\(n<=4999\/x n=[]):=by
 unfold uE at h;split at h
 ·rename_i b;exact⟨h,.inl (Nat.le_of_ble_eq_true b)⟩
 exact⟨h.1,.inr h.2⟩
theorem LV (h:selfTV n r) (b:x n=[]):uE x n r:=by
 unfold uE;split
 ·exact h
 exact⟨h,b⟩
theorem yh (h:selfTV n r) (b:n<=4999):uE x n r:=by
 unfold uE;rw[Nat.ble_eq_true_of_le b];exact h
def np (P:Program) (c:Func) (res:CallRes) (s:AS):Prop:=
 ∃r b,pj P s c.results.toList=some r/\uE s.H b r/\res.fam=(s.H b).map (renO 0)/\res.r=renTV 0 r
theorem wJ (G:World->Prop) {fn:Func} {args:List TV} {res:CallRes} (hf:P.funcs[u]?=some fn) (hb:fn.body=some g) (hn:callable P u=true) (h: ∀(w0:World) (X:Nat->Prop) (a:Act),G w0->da w0 (fun _=>False) X ⟨args++List.replicate (fn.ntmps-args.length) .undef,fun _=>[]⟩ a w0->g.wp P (fun e a' W=> ∃s1,((e= .normal\/e= .ret)/\ ∃s',bD s1 s'/\np P fn res s')/\da w0 (fun _=>False) X s1 a' W) a w0) (w:World) (hG:G w):Fg P u args res w:=by
 refine⟨hn,fun X vs hX a2 ab=>?_⟩;refine calls_of_wp hf hb ?_;have al:da w (fun _=>False) X ⟨args++List.replicate (fn.ntmps-args.length) .undef,fun _=>[]⟩ {tmps:=vs++Array.replicate (fn.ntmps-vs.size) undef,defers:=[]} w:=by
  refine⟨rfl,by simp[a2],fun _ _=>none,⟨Keep.refl w,fun a r o m=>by simp at m,fun a r a' r' o I b g c' m=>by simp at m,fun a r o b g m=>by simp at m,hX,fun a r o m=>by simp at m⟩,fun t x A=>?_⟩;have aa: ∀b,b<w.heap.size->Xo X (fun _ _=>none) (fun _=>[]) b->X b:=fun b _ h=>by
   rcases h with h|⟨a,r,o,g,F,h2⟩
   ·exact h
   cases h2
  by_cases ht:t<args.length
  ·rw[aal ht]at A;obtain⟨v,v1,v2⟩:=ab t x A;refine⟨v,by rw[aaz (by omega)];exact v1,TV.rel_map v2 (fun y l N=>?_)⟩;cases y with
   |p y=>exact bQ.weaken aa N
   |sl a r a3 len=>obtain⟨o,F,_⟩:=N;simp at F
   |ptr a r i j=>obtain⟨o,_,_,F,_⟩:=N;simp at F
   |fn u a qs=>exact(oQ (fun _=>rfl) N).elim
   |junk=>trivial
  rw[aap (by omega),aaY]at A;split at A
  ·rename_i a4;injection A with A
   subst A;refine⟨undef,?_,dI⟩;rw[aaM (by omega),abo,if_pos (by omega)]
  cases A
 refine wp_mono (h _ _ _ hG al) fun e a' W ⟨s1,⟨M,s2,hw,r,B,an,T,K,hr⟩,ad⟩=>?_
 obtain⟨C,h5⟩:=yj T;obtain⟨F,a5,ρ,q,ae⟩:=hw _ _ _ _ _ ad;have ae:aX X ρ s2 a' W:=ae;obtain⟨v,v1,v2⟩:=eA q ae an;have hF: ∀(k:Nat) o,(famH 0 res.fam 0)[k]?=some o-> ∃I,(s2.H B)[k]?=some I/\o=renO 0 I:=fun k o m=>by
  simp only[famH,if_true,K,u9]at m;obtain⟨I,D,R⟩:=u6.1 m;exact⟨I,D,R.symm⟩
 have U: ∀(x k:Nat) o,(famH 0 res.fam x)[k]?=some o->x=0:=fun x k o m=>by
  by_cases A:x=0
  ·exact A
  simp[famH,A]at m
 have aa: ∀b,Xo X (fun _ k=>ρ B k) (famH 0 res.fam) b->Xo X ρ s2.H b:=fun b hb=>by
  rcases hb with hb|⟨x,k,o,n,D,R⟩
  ·exact .inl hb
  have:=U x k o D;subst this;obtain⟨I,g3,_⟩:=hF k o D;exact .inr ⟨B,k,I,n,g3,R⟩
 have E: ∀x l,bs B x->AV.rel ρ s2.H (Xo X ρ s2.H) W x l->AV.rel (fun _ k=>ρ B k) (famH 0 res.fam) (Xo X (fun _ k=>ρ B k) (famH 0 res.fam)) W (bY 0 x) l:=jt (c:=bs B) (fun _ _ _ _ _ _ h=>h.1) (mb 0) fun x l hn L A=>by
  cases x with
  |fn=>cases hn
  |p x=>exact bQ.weaken (fun b _ hb=>aa b hb) A
  |sl x k a3 len=>
   have L:x=B:=L;subst L;obtain⟨o,D,R,g3⟩:=A;have h6:x<=4999:=h5.resolve_right fun h=>by rw[h]at D;simp at D
   exact⟨renO 0 o,by simp[famH,K,D],by simpa[renO] using R,nf (ρ':=fun _ k=>ρ x k) (a':=0) (r':=k) h6 g3 rfl⟩
  |ptr x k i j=>
   have L:x=B:=L;subst L;obtain⟨o,b,g,D,R,g3,g4⟩:=A;exact⟨renO 0 o,b,g,by simp[famH,K,D],R,by simpa[renO] using g3,g4⟩
  |junk=>trivial
 have Z: ∃Y:Rho,Inv w (fun _=>False) X (famH 0 res.fam) Y W/\res.r.rel Y (famH 0 res.fam) (Xo X Y (famH 0 res.fam)) W v:=by
  refine⟨fun _ k=>ρ B k,⟨q.keep,fun x k o m=>?_,fun x k x' k' o I b g c' m ah ac a1=>?_,fun x k o b g m ac=>?_,q.bar,fun x k o m=>?_⟩,?_⟩
  ·have:=U x k o m;subst this;obtain⟨I,D,rfl⟩:=hF k o m;obtain⟨z1,z2,z3⟩:=q.objs B k I D;refine⟨fun e M=>?_,z2,?_⟩
   ·simp only[renO,aai]at M;obtain⟨e',J,rfl⟩:=M;rw[aa0];exact z1 e' J
   cases S:ρ B k with
   |none=>rw[S]at z3;simp only[S];simp[renO,z3]
   |some bc=>
    obtain⟨b,n⟩:=bc;rw[S]at z3;obtain⟨cells,p1,p2,p3,p4,p5⟩:=z3;simp only[S];refine⟨cells,p1,p2,by simpa[renO] using p3,p4,fun i e j z M U=>?_⟩;simp only[renO,u9]at M;obtain⟨e',J,rfl⟩:=u6.1 M;rw[u9]at U;obtain⟨z',af,rfl⟩:=u6.1 U;obtain⟨l,u1,V,u3⟩:=p5 i e' j z' J af;exact⟨l,u1,V,E z' l (q.self B k I D e' (u5 J) z' (u5 af)) u3⟩
  ·have e1:=U x k o m;have e2:=U x' k' I ah;subst e1 e2;obtain⟨o1,D,_⟩:=hF k o m;obtain⟨o2,R,_⟩:=hF k' I ah;exact⟨rfl,(q.inj B k B k' o1 o2 b g c' D R ac a1).2⟩
  ·have e1:=U x k o m;subst e1;obtain⟨o1,D,_⟩:=hF k o m;exact q.old B k o1 b g D ac
  ·have e1:=U x k o m;subst e1;obtain⟨o1,D,rfl⟩:=hF k o m;intro e M z av;simp only[renO,aai]at M;obtain⟨e',J,rfl⟩:=M;simp only[aai]at av;obtain⟨z',af,rfl⟩:=av;exact dv _ _
  rw[hr];have agg: ∀Q l,(∀x∈Q,bs B x)->bI ρ s2.H (Xo X ρ s2.H) W Q l->bI (fun _ k=>ρ B k) (famH 0 res.fam) (Xo X (fun _ k=>ρ B k) (famH 0 res.fam)) W (Q.map (bY 0)) l:=fun Q l L h=>by
   obtain⟨us,F,h2,h3⟩:=h;refine⟨us,F,by simpa using h2,fun j x A=>?_⟩;rw[u9]at A;obtain⟨y,N,rfl⟩:=u6.1 A;obtain⟨u',u1,V,u3⟩:=h3 j y N;exact⟨u',u1,V,E _ _ (L y (u5 N)) u3⟩
  cases r with
  |one x=>exact E x v C v2
  |agg Q=>exact agg Q v C v2
  |fn u Q=>obtain⟨l,F,h2⟩:=v2;exact⟨l,agg Q l C F,h2⟩
  |tup ts=>
   obtain⟨us,F,h2,h3⟩:=v2;refine⟨us,F,by simpa using h2,fun j b Q A=>?_⟩;rw[u9]at A;obtain⟨y,N,ap⟩:=u6.1 A;obtain⟨b',ag⟩:=y;simp at ap;obtain⟨rfl,rfl⟩:=ap;obtain⟨l,u1,V⟩:=h3 j b' ag N;have L:=C (b',ag) (u5 N);refine⟨l,u1,?_⟩;rcases V with⟨V,u3⟩|⟨V,x,rfl,u4⟩
   ·exact .inl ⟨V,agg _ _ L u3⟩
   exact .inr ⟨V,_,rfl,E _ _ (L x (by simp)) u4⟩
 rcases M with rfl|rfl
 ·exact⟨F,v,v1,v,rfl,Z⟩
 exact⟨F,v,v1,v,rfl,Z⟩
theorem fk {args:List TV} {res:CallRes} (m:P.funcs[u]?=some B) (l:B.body=some g) (b:callable P u=true) (h:bo P g (fun e s=>(e= .normal\/e= .ret)/\ ∃j,bD s j/\np P B res j) ⟨args++List.replicate (B.ntmps-args.length) .undef,fun _=>[]⟩):CallC P u args res:=
 ⟨b,fun X w vs=>(wJ (fun _=>True) m l b (fun w0 X a _ r=>h w0 _ X a w0 r) w trivial).2 X vs⟩
end
end
end Go.Proofs.YtalmoejhjceflaaGreat
