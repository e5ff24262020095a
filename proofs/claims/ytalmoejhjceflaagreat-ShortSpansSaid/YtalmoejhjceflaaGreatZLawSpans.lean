/-
  Proved: the statement ShortSpansSaid: for every input the law quadformlaw13.ShortSpans returns true, and each argument reads afterwards as it read before. No condition.
-/
import Derived.Test.YtalmoejhjceflaaGreatV33
import Derived.OpenShut
set_option linter.all false
set_option maxRecDepth 100000
set_option maxHeartbeats 64000000
open Nat renaming reduceAdd → aa
open Nat renaming reduceEqDiff → ae
open List renaming replicate → af
open Nat renaming reduceLeDiff → ah
namespace Go.Proofs.YtalmoejhjceflaaGreat
open Go.RowKit Go.Proofs.Tryz
section
open Go.ChangeShapes Go.WideShapes Go.ChangeAt Go.RowKit
theorem xV:joinedFacts Tryz.pinned.checked.prog 12 f12 Rows.shortSpansSpec Rows.shortSpansRow=true:=by kernel_rfl
end
variable {n m:Nat} {b c:FF} {e:List Int} {f:Exit->Act->World->Prop} {g:List Nat} {h:List (List Int)} {j:List (Int×List Int)} {l:FuncId} {o:Act->World->Prop} {p:Array Oper} {x:Int} {w:World} {q:Oper} {r:Call} {s:Code}
section
theorem CallC.nilA {P:Program} {args:List TV} {res:CallRes} {k:Nat} (h:CallC P l args res) (m:args[k]?=some (.one (.p (.sl [])))):CallC P l (args.set k (.one (.p (.raw (.slice none 0 0))))) res:=by
 have o:=(aeI.1 m).1;refine⟨h.1,fun X w vs n c e=>h.2 X w vs n (by simpa using c) fun j t b=>?_⟩;by_cases g:j=k
 ·subst g;obtain⟨v,q,r⟩:=e j _ (afu o);rw[m]at b;injection b with b
  subst b;have:=(bo (ρ:=fun _ _=>none) (H:=fun _=>[]) r).1;subst this;exact⟨_,q,bS.nil _ _⟩
 exact e j t (by rw[afB (agv g)];exact b)
section
variable {P:Program} {s:AS} {Q:Exit->AS->Prop}
theorem CN {g:World} {O X:Nat->Prop} {a:Act} (D:dP w O X s a g) {c:Call} (ho:q.op= .call c) (B:c.callee= .value (.func l)) {args:List TV} {res:CallRes} (z:CallC P l args res) {d:Nat} (J:gy s.ev c.args.toList=some args) (R:args.all p7=true) (hd:res.fam≠[]->s.H d=[]) (C:q.dst=some d) (hK: ∀v U,dP w O X (kq s d (renTV d res.r) (res.fam.map (renO d))) (a.put q.dst v) U->o (a.put q.dst v) U):q.wp P a g o f:=by
 obtain⟨h1,L,F,m,t⟩:=D;have t:bz X F s a g:=t;obtain⟨V,W⟩:=co J;have E:=gY (w:=g) ho B (e:=a.eval) rfl z.1;unfold Oper.wp;rw[E];simp only[Oper.upon];rw[aeP]at R;have N: ∀b,(if res.plain then(fun _=>False)else Xo X F s.H:Nat->Prop) b->Xo X F s.H b:=fun b p=>by
  split at p
  ·exact p.elim
  exact p
 have A: ∀b,Xo X F s.H b->b<g.heap.size:=fun b p=>by
  rcases p with p|⟨x,y,o',n,Y,Z⟩
  ·exact m.bar b p
  exact bI (m.objs x y o' Y) Z
 refine(z.2 (if res.plain then(fun _=>False)else Xo X F s.H) g (c.args.map a.eval) (fun b p=>A b (N b p)) (by simp[V]) fun j u S=>?_).mono ?_
 ·obtain⟨y,T,M⟩:=W j u S;exact⟨a.eval y,by rw[aiI];simp at T;rw[T];rfl,mY N (R u (adQ S)) (bE t y u M)⟩
 rintro e I ⟨v,rfl,G,hi,hr⟩;show o (a.put q.dst v) I;have:=gW (P:=P) (it:=(⟨0,l,args,res⟩:dD P)) (d:=d) (v:=v) (w1:=I) (ρc:=G) h1 L m t rfl rfl (fun h:res.fam.map (renO d)≠[]=>hd (by simpa using h)) hi hr;rw[<- C]at this;exact hK v I this
structure S4 (ops:Array Oper) (m:Nat) (f:FuncId) (args:List TV) (res:CallRes) (s:AS):Prop where
 ts:cwTs ops m s=some (f,args)
 dst: ∃d,cwD ops m=some d/\(res.fam≠[]->s.H d=[])
theorem wS (m:Nat) {args:List TV} {res:CallRes} (r:CallC P l args res) (R:args.all p7=true) (b:List (ar P)) (y:List Nat) {id:Nat} (C:m<p.toList.length) (h:bM P (b.map ar.a) y (aV p (p.toList.take m) 0) (some s) (fun A=>S4 p m l args res A/\bM P (b.map ar.a) y (aV p (p.toList.drop (m+1)) (m+1)) (some (K2 p m res A)) (Q .normal))):bv P (.region id p false) Q s:=fun Y O X a w W=>by
 obtain⟨A,J,⟨g,⟨d,z,U⟩⟩,K⟩:=aO P (b.map ar.a) y p _ 0 s _ h;obtain⟨x,L,M⟩:=aO P (b.map ar.a) y p _ (m+1) _ _ K;obtain⟨o,E⟩: ∃o,p[m]?=some o:=⟨p[m],by simp at C;simp[C]⟩;have t:o.dst=some d:=by
  unfold cwD at z;rw[E]at z;exact z
 unfold cwTs at g;rw[E]at g;simp only at g;split at g
 ·rename_i c N u;split at g
  ·rename_i Z q;split at g
   ·rename_i ts H;injection g with g
    injection g with g T
    subst g T;refine wp_region ?_;have G:p.size=(p.toList.take m).length+(1+(p.toList.drop (m+1)).length):=by simp at C⊢;omega
    rw[G,afi,<- afk,afm];have D:(p.toList.take m).length=m:=by rw[age];omega
    refine jt (ar.ok b) (p.toList.take m) 0 s A a w (fun j o n=>?_) J W fun B I V=>?_
    ·rw[ag3]at n;split at n
     ·simpa using n
     cases n
    rw[D,agn 1,afj];simp only[wpOps,E];rw[if_pos (by simp[Region.wanted,N])];refine .inl (CN V u q r H R U t fun v w1 F=>?_);refine fC (ar.ok b) (Q:=fun e B I=> ∃x,Q e x/\dP Y O X x B I) (p.toList.drop (m+1)) (m+1) _ x _ _ (fun j o n=>?_) L ?_ (fun B I S=>⟨x,M,S⟩)
    ·rw[agL]at n;simpa using n
    unfold K2;rw[z];exact F
   cases g
  cases g
 cases g
theorem tz (m:Nat) {args:List TV} {res:CallRes} (c:CallC P l args res) (o:args.all p7=true) (b:List (ar P)) (g:List Nat) {id:Nat} {y:Code} (n:m<p.toList.length) (h: ∀K:AS->Prop,(∀e,(S4 p m l args res e/\ ∀K:AS->Prop,(∀j,bv P y Q j->K j)->bM P (b.map ar.a) g (aV p (p.toList.drop (m+1)) (m+1)) (some (K2 p m res e)) K)->K e)->bM P (b.map ar.a) g (aV p (p.toList.take m) 0) (some s) K):bv P (.seq (.region id p false) y) Q s:=
 aj (wS m c o b g n (h _ fun e ⟨q,r⟩=>⟨q,r _ fun _ h=>h⟩))
end
end
section
section
variable {P:Program}
theorem lX (t K e:TypeId) (z:Value) (size bytes:Nat) (U:P.underlying t=some (.slice e)) (C:(P.info? e).map (fun i=>(i.zero,i.size,i.bytes))=some (some z,size,bytes)) (X:z.cells.size=size) (T:0<size) (v:Value) (n:Nat) (I:List Value) (p:w.ownsRow 0 e size v n I) (A:Option Addr) (m c:Nat) (f:List Value) (hr:Rd w A f) (S:f≠[]) (J:f.length=m*size) (Z: ∀u∈f,u.oneCell'=true) (M:n+m<=maxLen) (o:(n+m)*bytes<=140737488355328):
  ∃L F,(Builtin.append_ #[t,t] K #[v,.slice A m c]).run P w= .ok L F/\F.ownsRow 0 e size L (n+m) (I++f)/\w.grownBy F v.ownBlock/\
   ∀g h,v.ownBlock=some g->w.heap[g]?=some (.cells h e (0,0))-> ∃r,F.heap[g]?=some (.cells r e (0,0))/\r.size=h.size/\ ∀i,i<n*size->r[i]?=h[i]?:=by
 obtain⟨i,Q,H⟩:=adT.1 C;simp only[aiH]at H;obtain⟨hz,hs,hb⟩:=H;obtain⟨b,y,rfl,hc⟩:=hr S;have l: ∀(j:Nat) u,f[j]?=some u->w.cell? ((⟨b,y,none⟩:Addr).add j)=some u:=fun j u hu=>by
  grind [Addr.add]
 obtain⟨L,F,B,h2,h3,_⟩:=run_append_own (P:=P) w 0 t K e i z size bytes U Q hz hs hb X T v n I p ⟨b,y,none⟩ m c f J l Z M o (afl _);refine⟨L,F,B,h2,h3,fun g h W O=>?_⟩;subst hs;subst hb;rcases p.2 with⟨rfl,_⟩|⟨E,cap,Y,rfl,_,q,ab,aa,N,V⟩
 ·cases W
 have W:E=g:=by grind [Value.ownBlock]
 subst W;rw[O]at q;injection q with q
 injection q with q
 subst q;by_cases x:n+m<=cap
 ·have G:n*i.size+f.length<=h.size:=by rw[J,N,<- ahr];exact ae2 _ x
  have s:=run_append_room (P:=P) w t K e i U Q E n cap h O ⟨b,y,none⟩ m c f J l Z x G;grind [setRow_heap,List.size_toArray]
 have D: ∀(j:Nat) u,I[j]?=some u->w.cell? ((⟨E,0,none⟩:Addr).add j)=some u:=p.cells (g:=E) rfl;have s:=run_append_grow (P:=P) w t K e i z U Q hz ⟨E,0,none⟩ n cap I p.1 D ⟨b,y,none⟩ m c f J l (by omega) (by grind [maxLen]) (growslice_fits (by omega) o);rw[B]at s;injection s with _ s
 subst s;have R:E<w.heap.size:=by
  grind
 exact⟨h,(heap_alloc_old w.drew _ R).trans O,rfl,fun _ _=>rfl⟩
variable {s:AS} {a:Act} {w0 w w1:World} {O X:Nat->Prop} {ρ:Rho} {H:OH}
theorem A5 (f:Inv w0 O X H ρ w) {o:OObj} (D:(H n)[0]?=some o) {row:Option Nat} (q:w.grownBy w1 row) (K:row=(ρ n 0).map (·.1)) (hk: ∀g r,row=some g->w.heap[g]?=some (.cells r o.ty (0,0))-> ∃l:Array Value,w1.heap[g]?=some (.cells l o.ty (0,0))/\l.size=r.size/\ ∀i,i<o.elems.length*o.es->l[i]?=r[i]?):
  Inv w0 O X H ρ w1/\ ∀x v,AV.rel ρ H (Xo X ρ H) w x v->AV.rel ρ H (Xo X ρ H) w1 x v:=by
 have t: ∀k,row=some k-> ∃c,ρ n 0=some (k,c):=fun k h=>by
  grind [Option.map_eq_some_iff]
 have J:NI (Xo X ρ H) w w1:=⟨q.size,fun p v hp hc=>q.cell hc fun e=>by
  obtain⟨c,h⟩:=t _ e.symm;exact hp (.inr ⟨n,0,o,c,D,h⟩)⟩
 have mono: ∀x v,AV.rel ρ H (Xo X ρ H) w x v->AV.rel ρ H (Xo X ρ H) w1 x v:=fun x v h=>by
  cases x with
  |p x=>exact bS.stays J h
  |_=>exact h
 refine⟨⟨⟨q.os.trans f.keep.os,q.tape.trans f.keep.tape,q.output.trans f.keep.output,aeN f.keep.size q.size,fun k A Z=>?_⟩,fun x y M m=>?_,f.inj,f.old,fun b t=>aeT (f.bar b t) q.size,f.self⟩,mono⟩
 ·rw[q.block k (aeT A f.keep.size) fun e=>?_]
  ·exact f.keep.block k A Z
  obtain⟨c,h⟩:=t k e.symm;rcases(f.old n 0 o k c D h).1 with h|h
  ·omega
  grind
 have B:=f.objs x y M m;obtain⟨q1,q2,T⟩:=id B;refine⟨q1,q2,?_⟩;cases I:ρ x y with
 |none=>grind
 |some U=>
  obtain⟨b,c⟩:=U;rw[I]at T;obtain⟨cells,N,Q,R,S,p5⟩:=T;by_cases C:x=n/\y=0
  ·obtain⟨rfl,rfl⟩:=C;rw[D]at m;injection m with m
   subst m;obtain⟨l,W,Y,c3⟩:=hk b cells (by grind) N;refine⟨l,W,Y.trans Q,R,S,fun i e j z F L=>?_⟩;obtain⟨u,u1,u2,u3⟩:=p5 i e j z F L;have hi:i<o.elems.length:=(aeI.1 F).1;have hj:j<o.es:=by grind
   have:(i+1)*o.es<=o.elems.length*o.es:=ae2 _ hi;grind
  have G:=bI B I;have E:some b≠row:=fun e=>by
   obtain⟨V,h⟩:=t b e.symm;exact C (f.inj x y n 0 M o b c V m D I h)
  refine⟨cells,(q.block b G E).trans N,Q,R,S,fun i e j z F L=>?_⟩;grind
theorem Fq (ac:dP w0 O X s a w) {sx x:Operand} {t:TypeId} {l:OObj} {b:List (List AV)} {z:List Value} (ho:q.op= .call {callee:= .builtin .append,args:= #[sx,x],argTypes:= #[t,t]}) (av:n<=4999) (hs:s.ev sx=some (.one (.sl n 0 0 l.elems.length))) (hx:(s.ev x).bind (newsOf s.H)=some b) (N:(s.H n)[0]?=some l) (a4:sliceO P t=some l.ty) (hz:zeroO P l.ty=some z) (ae:szO P l.ty=some l.es) (ap:byO P l.ty=some m) (b0:z.length=l.es) (hp:l.elems.all (fun e=>e.all isPure)=true) (hn:b≠[]) (a1: ∀e∈b,e.length=l.es) (bm:l.elems.length+b.length<=9223372036854775807) (an:(l.elems.length+b.length)*m<=140737488355328) (hK: ∀U w1,dP w0 O X (s.put q.dst (.one .junk)) (a.put q.dst U) w1->bS (fun _=>False) w1 (.sl ((l.elems++b).map (List.map unP))) U->o (a.put q.dst U) w1):q.wp P a w o f:=by
 obtain⟨h1,a5,ρ,C,F⟩:=ac;have F:bz X ρ s a w:=F;obtain⟨tx,a7,M⟩:=aeZ.1 hx;have B:=C.objs n 0 l N;have D:0<l.es:=B.2.1;obtain⟨us,ad⟩:=pY C.objs M (bE F x tx a7) a1 D;obtain⟨xs,G,bx,a9⟩:=FY av B N (bE F sx _ hs);obtain⟨⟨A,cc,hv,a3⟩,ah,ab,bw,I⟩:=id ad;obtain⟨ti,zv,af,b1,bH⟩:=jH hz;obtain⟨ba,c,bl⟩:=o6 ae;rw[af]at c;injection c with c;subst c
 obtain⟨ba,c,bb⟩:=qP ap;rw[af]at c;injection c with c;subst c
 have aa:0<b.length:=by
  grind
 have a8:us≠[]:=fun h=>by
  rw[h]at ah;have:=aiy aa D;grind
 obtain⟨U,w1,bh,S,hg,L⟩:=lX (P:=P) t q.type l.ty zv l.es m (eG a4) (by grind) (by grind) D _ _ xs G A b.length cc us a3 a8 ah ab (by grind [maxLen]) an;obtain⟨J,mono⟩:=A5 C N hg a9 L;have E:(execOp a.eval q).run P w= .ok (.value U) w1:=by
  unfold execOp;grind [resolve,invoke,builtin,Sem.run_bind,Sem.run_pure,Result.andThen_ok]
 unfold Oper.wp execOp;unfold execOp at E;rw[E];have ag:bz X ρ s a w1:=fun k y T=>by
  grind [TV.rel_map]
 refine hK U w1 (fF h1 a5 J ag trivial) ?_;have W: ∀e∈l.elems++b,e.length=l.es/\ ∀y∈e,isPure y=true:=fun e r=>by
  rcases afD.1 r with r|r
  ·simp only[aeP]at hp;exact⟨B.1 e r,fun y T=>hp e r y T⟩
  grind
 have Z:=EN (R:=fun x v=>AV.rel ρ s.H (Xo X ρ s.H) w1 x v) G.1 B.1
  (fun i e j z r hz=>by grind)
  (fun i e j z r hz=>by obtain⟨u,u1,u2,u3⟩:=I i e j z r hz;exact⟨u,u1,u2,mono z u u3⟩)
 have bc:(l.elems++b).length=l.elems.length+b.length:=afg;rcases S.2 with⟨_,h0⟩|⟨g,cap,V,rfl,_,br,bt,bp,bq,a6⟩
 ·omega
 have a0:g<w1.heap.size:=by
  grind
 have bn: ∀(i:Nat) e (j:Nat) y,((l.elems++b).map (List.map unP))[i]?=some e->e[j]?=some y-> ∃u:Value,V[i*l.es+j]?=some u/\bS (fun _=>False) w1 y u:=fun i e j y r T=>by
  rw[aeG]at r;obtain⟨e',Y,rfl⟩:=adT.1 r;rw[aeG]at T;obtain⟨y',ai,rfl⟩:=adT.1 T;obtain⟨u,u1,_,u3⟩:=Z i e' j y' Y ai;have a2:=(W e' (adQ Y)).2 y' (adQ ai);refine⟨u,?_,?_⟩
  ·grind
  cases y' with
  |p y=>exact bS.weaken (fun _ _ h=>h.elim) u3
  |_=>cases a2
 have:=bS.sl (X:=fun _=>False) (w:=w1) g 0 l.es cap ((l.elems++b).map (List.map unP)) (fun i j=>(V[i*l.es+j]?).getD undef) (fun h=>h) a0 (fun e r=>by
  grind) (by grind) (by grind)
  (fun i e j y r T=>by
   grind [World.cell?])
  (fun i e j y r T=>by
   grind)
 grind
theorem wZ (A:dP w0 O X s a w) {E:Operand} {d d2:Nat} {I J M:Value} {L:List (List PV)} (V:q.op= .call r) (x:r.callee= .value (.func l)) (t:r.args= #[E,.tmp d]) (n:CallC P l [.raw I,.one (.p (.sl L))] ⟨[],.raw J⟩) (G:s.ev E=some (.raw I)) (Y:a.eval (.tmp d)=M) (B:bS (fun _=>False) w (.sl L) M) (y:q.dst=some d2) (S: ∀v N,dP w0 O X (s.put q.dst (.raw J)) (a.put q.dst v) N->o (a.put q.dst v) N):q.wp P a w o f:=by
 obtain⟨R,F,ρ,z,m⟩:=A;have m:bz X ρ s a w:=m;have C:=gY (w:=w) V x (e:=a.eval) rfl n.1;unfold Oper.wp;rw[C];simp only[Oper.upon];refine(n.2 (fun _=>False) w (r.args.map a.eval) (fun b T=>T.elim) (by grind) fun j u g=>?_).mono ?_
 ·rw[t]
  match j,g with
  |0,g=>
   injection g with g
   subst g;exact⟨a.eval E,by simp,mY (fun _ h=>h.elim) rfl (bE m E _ G)⟩
  |1,g=>
   injection g with g
   subst g;exact⟨a.eval (.tmp d),by simp,by rw[Y];exact B⟩
  |j+2,g=>simp at g
 rintro e w1 ⟨v,rfl,D,U,W⟩;show o (a.put q.dst v) w1;have:=gW (P:=P) (it:=(⟨0,l,[.raw I,.one (.p (.sl L))],⟨[],.raw J⟩⟩:dD P)) (d:=d2) (v:=v) (w1:=w1) (ρc:=D) R F z m rfl rfl (fun h=>absurd rfl h) U W;refine S v w1 ?_;rw[y];exact this
structure abr (P:Program) (ops:Array Oper) (m fa:Nat) (f:FuncId) (nv:Value) (L:List (List PV)) (s:AS) (d d2:Nat):Prop where
 ok: ∃o1 o2 sx x t by_ ob news z x0 tys,ops[m]?=some o1/\ops[m+1]?=some o2/\(o1.op= .call {callee:= .builtin .append,args:= #[sx,x],argTypes:= #[t,t]}/\o1.guard=none/\o1.dst=some d)/\
  (o2.op= .call {callee:= .value (.func f),args:= #[x0,.tmp d],argTypes:=tys}/\o2.guard=none/\o2.dst=some d2)/\
  (s.ev sx=some (.one (.sl fa 0 0 ob.elems.length))/\(s.ev x).bind (newsOf s.H)=some news/\(s.H fa)[0]?=some ob)/\
  (sliceO P t=some ob.ty/\zeroO P ob.ty=some z/\szO P ob.ty=some ob.es/\byO P ob.ty=some by_/\z.length=ob.es)/\
  (ob.elems.all (fun e=>e.all isPure)=true/\news≠[]/\(∀e∈news,e.length=ob.es)/\ob.elems.length+news.length<=9223372036854775807/\(ob.elems.length+news.length)*by_<=140737488355328)/\
  (ob.elems++news).map (List.map unP)=L/\(s.put (some d) (.one .junk)).ev x0=some (.raw nv)/\d<s.tmps.length
theorem EF {Q:Exit->AS->Prop} (m M:Nat) {R I:Value} {L:List (List PV)} (q:CallC P l [.raw R,.one (.p (.sl L))] ⟨[],.raw I⟩) (D:M<=4999) (c:List (ar P)) (C:List Nat) {id:Nat} {b:Array Oper} {y:Code} (hm:m+1<b.toList.length) (h: ∀K:AS->Prop,(∀A,(∃d d2,abr P b m M l R L A d d2/\ ∀K:AS->Prop,(∀n,bv P y Q n->K n)->bM P (c.map ar.a) C (aV b (b.toList.drop (m+2)) (m+2)) (some ((A.put (some d) (.one .junk)).put (some d2) (.raw I))) K)->K A)->bM P (c.map ar.a) C (aV b (b.toList.take m) 0) (some s) K):bv P (.seq (.region id b false) y) Q s:=by
 refine aj fun w0 O X a w r0=>?_
 obtain⟨A,Y,d,d2,⟨o1,o2,sx,x,t,U,ob,N,z,x0,aa,V,W,⟨p1,p2,p3⟩,⟨q1,q2,S⟩,⟨r1,r2,r3⟩,⟨t1,t2,t3,t4,t5⟩,⟨u1,u2,u3,u4,u5⟩,hL,G,hd⟩,Z⟩:=aO P (c.map ar.a) C b _ 0 s _ (h _ fun _ h=>h);obtain⟨n,h3,h4⟩:=aO P (c.map ar.a) C b _ (m+2) _ _ (Z _ fun _ h=>h);refine wp_region ?_;have E:(b.toList.take m).length=m:=by grind
 have F:b.size=(b.toList.take m).length+(1+(1+(b.toList.drop (m+2)).length)):=by grind
 rw[F,afi,<- afk,afm];refine jt (ar.ok c) (b.toList.take m) 0 s A a w (fun j o hj=>?_) Y r0 fun B J T=>?_
 ·grind
 rw[E,show 1+(1+(b.toList.drop (m+2)).length)=(b.toList.drop (m+2)).length+1+1 by omega,afj,afj];simp only[wpOps,V];rw[if_pos (by simp[Region.wanted,p2])];refine .inl (Fq T p1 D r1 r2 r3 t1 t2 t3 t4 t5 u1 u2 u3 u4 u5 fun I w1 r g=>?_);rw[p3]at r⊢;simp only[wpOps,W];rw[if_pos (by simp[Region.wanted,q2])];rw[hL]at g;refine .inl (wZ r q1 rfl rfl q G ?_ g S fun v w2 u=>?_)
 ·have:d<B.tmps.size:=by rw[T.2.1];exact hd
  simp[Act.eval,Act.put,this]
 rw[S]at u⊢;refine fC (ar.ok c) (Q:=fun e B J=> ∃n,l8 (bv P y Q) Q e n/\dP w0 O X n B J) (b.toList.drop (m+2)) (m+2) _ n _ _ (fun j o hj=>?_) h3 u (fun B J hr=>⟨n,h4,hr⟩);grind
end
end
def Bm (f:FF) (k i j:Nat):Nat->Nat->Int:=fun a b=>f (if a<k then a else i) (if b<k then b else j)
theorem vX {b:Type} (k i:Nat) (g:Nat->b):(List.range k++[i]).map g=(List.range (k+1)).map fun a=>g (if a<k then a else i):=by
 grind [List.range_succ,List.map_congr_left]
theorem Mq (k i j:Nat) (f:FF):((List.range k++[i]).map fun r=>(List.range k++[j]).map (f r))=mat (k+1) (k+1) (Bm f k i j):=by
 rw[vX];exact ae1 fun a _=>vX k j _
theorem Up {k i:Nat} (h:m<=k):dk (Bm b k i n) m=dk b m:=cy fun a c e g=>by grind [Bm]
theorem TP (f:FF) (k i j:Nat):dk (Bm f k i j) (k+1)=bk f k i j:=by
 have e:om (Bm f k i j) k=om (fun a b=>f a (if b<k then b else j)) k:=rz fun t m=>by grind [Bm]
 have g:om (fun a b=>f a (if b<k then b else j)) k=fun l=>om f k (l.map fun b=>if b<k then b else j):=funext fun l=>ue (R:=f) (fun b=>if b<k then b else j) k l
 have h:(jc k).map (fun b=>if b<k then b else j)=jc k:=by
  simp_all[ae1,iK]
 rw[cB];unfold bk;rw[e,g];have:=sj (r:=f i) (fun b=>if b<k then b else j) (k::jc k) (om f k);rw[aeX,h,if_neg (by omega)]at this;rw[<- this]
 congr 1
 funext c;grind [Bm]
theorem K5 {k:Nat} (c: ∀t,t<k->dk b (t+1)≠0) (i j:Nat):detF (k+1) (Bm b k i j)=bk b k i j:=by
 grind [ip,Up,TP]
theorem LJ {k i:Nat} (l:k<n) (g:i<n) (h:m<n) (e: ∀i m,i<n->m<n->Sz (b i m) 1024): ∀r c,r<k+1->c<k+1->Sz (Bm b k i m r c) 1024:=fun r c _ _=>by
 grind [Bm]
def oY (n:Nat) (f:FF) (m:Nat):List (List (List Int)):=(List.range m).map fun k=>mat (n-k) (n-k) (fH f k)
theorem Cg (m:Nat):oY n b m++[mat (n-m) (n-m) (fH b m)]=oY n b (m+1):=by
 grind [oY,List.range_succ]
theorem wd (n:Nat) (f:FF) (m:Nat):(oY n f m).length=m:=by simp[oY]
theorem wc (f:FF) {k:Nat} (h:k<m):(oY n f m)[k]?=some (mat (n-k) (n-k) (fH f k)):=by
 grind [oY]
abbrev fB:List (List Int)->List PV:=fR (fR fZ)
theorem Bd (l:List (List (List Int))) (M:List (List Int)):lc fB l++[[.p (.sl (ls (fR fZ) M))]]=lc fB (l++[M]):=by simp[lc,fR]
theorem EC (n:Nat) (f:FF) (k:Nat) (R:n<=8) (M:k<n) (K: ∀t,t<k->dk f (t+1)≠0) (L: ∀i j,i<n->j<n->Sz (f i j) 1024):
  CallC prog 149 [dq (mat n n f),.raw (.int .i64 (k:Int))] ⟨[],dq (mat (n-k) (n-k) (fH f k))⟩:=by
 have u:=aS n n f;obtain⟨m,N,O⟩: ∃m,n-k=m/\1<=m:=⟨n-k,rfl,by omega⟩;have D:IntKind.i64.wrap ((n:Int)-(k:Int))=(m:Int):=by grind [aH]
 have A:=qL m m (by omega) (by omega);rw[nH,n5]at A;rw[N];refine aB func149 rfl ntmps149 (aE (k:=d9 (aG u D) (k:=bu [⟨2,_,_,_,A⟩] (k:=aj (aZ (k:=?_))))));refine ay (G:=fp m) (fun g=>⟨(dq (mat n n f)::rN k::j4 (.one (.sl 15 0 0 m)::j4 (j4 (jk::jk::rN m::rN g.i::j16 (j16 ([])))))),Hm [(15,gC 15 m m (part (fH f k) g.i 0))]⟩) (fun g=>m-g.i) ⟨0,by omega⟩ ?_ ?_
 ·refine ak ⟨?_,trivial⟩ ?_
  ·rw[sI];exact fD 0 15 m m _
  simp[wk]
 rintro⟨i,P⟩;simp only;by_cases h:i<m
 ·have y:=bO (n:=m) (i:=i) 15 m h;have z:=dp m (part (fH f k) i 0) h;refine ax (k:=aP rfl (aj (ao (aZ (k:=aF y (k:=?_))))));refine ay (G:=fp m) (fun g=>⟨(dq (mat n n f)::rN k::j4 (.one (.sl 15 0 0 m)::rN i::j4 (j4 (jk::rN m::rN i::j4 (jk::jk::rN m::rN g.i::j16 (j4 (j4 ([])))))))),Hm [(15,gC 15 m m (part (fH f k) i g.i))]⟩) (fun g=>m-g.i) ⟨0,by omega⟩ ?_ ?_
  ·refine ak ⟨rfl,trivial⟩ ?_;simp[wk]
  rintro⟨j,Q⟩;simp only;by_cases o:j<m
  ·have z:=dp m (part (fH f k) i j) h;have I:=aw (part (fH f k) i j i) o;have B:=vb k (k+i) (by omega) (by omega);have C:=vb k (k+j) (by omega) (by omega);have p: ∀q,q<m-> ∀x∈List.range k++[k+q],x<n:=fun q S x T=>by
    grind
   have v:=uH n n f (List.range k++[k+i]) (List.range k++[k+j]) (by omega) (by omega) (p i h) (p j o) (by simp;omega) (by simp;omega);rw[Mq]at v;have w:=gm (k+1) (Bm f k (k+i) (k+j)) (by omega) (by omega) (LJ M (by omega) (by omega) L);rw[K5 K,show bk f k (k+i) (k+j)=fH f k i j from rfl]at w;have E:IntKind.i64.wrap ((k:Int)+(i:Int))=((k+i:Nat):Int):=by grind [aH]
   have F:IntKind.i64.wrap ((k:Int)+(j:Int))=((k+j:Nat):Int):=by grind [aH]
   refine ax (k:=aP rfl (aj (ao (aZ (k:=fP [⟨10,_,_,_,B⟩,⟨15,_,_,_,C⟩,⟨16,_,_,_,v⟩,⟨17,_,_,_,w⟩] (aG y (aG E (aG F (aG z (aG I @gS))))) (k:=bK (k:=?_)))))));refine⟨⟨j+1,by omega⟩,by grind,ak ⟨?_,trivial⟩ ?_⟩
   ·show _::_=_::_;rw[bC fun a b _ _=>ij (fH f k) i j a b]
   simp[wk]
  have s:j=m:=by omega
  subst s;refine ax (k:=aQ rfl (bK (k:=?_)));refine⟨⟨i+1,by omega⟩,by grind,ak ⟨?_,trivial⟩ ?_⟩
  ·show _::_=_::_;rw[bC fun a b _ J=>jr (fH f k) i a b J]
  simp[wk]
 have r:i=m:=by omega
 subst r;refine ax (k:=aQ rfl ?_);show bv _ _ _ _;have e:gC 15 i i (part (fH f k) i 0)=gC 15 i i (fH f k):=by
  grind [bC,jq]
 rw[e];refine bv.weak ((bR 15 (iq rfl)).trans (ak (tm:=(j4 (jk::jk::dq (mat i i (fH f k))::j16 (j16 (j4 (j4 (j4 ([])))))))) (l:=[]) trivial (by simp[wk];exact(Ow (H:=Hm [(15,gC 15 i i (fH f k))]) (d:=15) (n:=i) (c:=i) (f:=fH f k) rfl).symm))) ?_;refine aZ (k:=aI @results149)
theorem xJ (n:Nat) (f:FF) (s:1<=n) (E:n<=8) (c: ∀t,t<n->dk f (t+1)≠0) (e: ∀i j,i<n->j<n->Sz (f i j) 1024):
  CallC prog 97 [dq (mat n n f)] ⟨[],.tup [(false,[.p (.sl (ls fB (oY n f n)))]),(false,[.p (.raw (.bool true))])]⟩:=by
 have r:=aS n n f;have A:=kB n f s (by omega) e;have m:(yw n f).length=n:=az _ _;have B:IntKind.i64.wrap ((n:Int)-1)=((n-1:Nat):Int):=by grind [aH]
 have v:((yw n f).take (n-1)).length=n-1:=by grind
 refine aB func97 rfl ntmps97 (aE (k:=fJ [⟨1,_,_,_,A⟩] @Zd.eq_1 (k:=aj (aZ (k:=aq rfl (al (aj (aF (aG m (aG B (aG @afl (aG @Nat.sub_le (aG (fj pO) v))))) (k:=?_)))))))));refine ay (G:=fp (n-1)) (fun g=>⟨(dq (mat n n f)::j16 (j4 (qE ((yw n f).take (n-1))::.raw (.int .i64 ((n-1:Nat):Int))::rN g.i::j16 (j4 ([]))))),Hm []⟩) (fun g=>n-1-g.i) ⟨0,by omega⟩ ?_ ?_
 ·refine ak trivial ?_;simp[wk]
 rintro⟨i,K⟩;simp only;by_cases M:i<n-1
 ·have w:((yw n f).take (n-1))[i]?=some (detF (i+1) f):=by grind [aw]
  have x:detF (i+1) f=dk f (i+1):=ip fun t F=>c t (by omega)
  rw[x]at w;have y:=kh (dk f (i+1)) (by rw[<- x];exact(pK (by omega) fun a b I J=>e a b (by omega) (by omega)).mono (by omega));have H:=yF (c i (by omega));generalize sg (dk f (i+1))=q at*
  generalize dk f (i+1)=D at*
  refine ax (k:=aP rfl (aj (ao (aF w (k:=ce [⟨1,_,_,_,y⟩] H (k:=aq rfl (al (bK (k:=?_)))))))));refine⟨⟨i+1,by omega⟩,by grind,ak trivial ?_⟩;simp[wk]
 have h:i=n-1:=by omega
 subst h;refine ax (k:=aQ rfl (aZ (k:=aj (d9 r (k:=?_)))));refine ay (G:=fp n) (fun g=>⟨(dq (mat n n f)::j4 (jk::jk::jk::.one (.sl 41 0 0 g.i)::j16 (j4 (jk::jk::jk::rN n::rN g.i::j4 (j4 (jk::jk::[])))))),Hm [(41,[⟨42,1,lc fB (oY n f g.i)⟩])]⟩) (fun g=>n-g.i) ⟨0,by omega⟩ ?_ ?_
 ·refine(ca (k:=8) (d:=41) 42 1 (by omega) rfl rfl).trans (ak ⟨rfl,trivial⟩ ?_);simp[wk]
 rintro⟨k,L⟩;simp only;by_cases o:k<n
 ·have z:=EC n f k E o (fun t F=>c t (by omega)) e;have u:=wd n f k;refine ax (k:=aP rfl (aj (ao (aZ (k:=nU [⟨3,_,_,_,z⟩] (aG u (aG @Bd @Cg)) (k:=bK (k:=?_)))))));refine⟨⟨k+1,by omega⟩,by grind,ak ⟨rfl,trivial⟩ ?_⟩;simp[wk]
 have l:k=n:=by omega
 subst l;refine ax (k:=aQ rfl (aZ (k:=?_)));have C:List.take k (oY k f k)=oY k f k:=aeS (by rw[wd];omega);refine aM ⟨.inr rfl,dI 41 (bj rfl) ?_ rfl⟩;simp(disch:=omega) only[kd,results97,C]
section
structure Qe (a len:Nat) where
 t:Nat
 O:List Nat
 ht:t<=32*len
 len:O.length=len
 lmb:Lmb O
 q:Nat
 val:natV O=q*2^t
 lo:natV O*natV O<=a
 hi:a<(natV O+2^t)*(natV O+2^t)
theorem uS {k q:Nat} (s:k+1<=32*n) (len:g.length=n) (lmb:Lmb g) (val:natV g=q*2^(k+1)) (b:g[k/32]?=some m):
  m|||2^(k%32)=m+2^(k%32)/\m+2^(k%32)<4294967296/\natV (g.set (k/32) (m+2^(k%32)))=natV g+2^k/\(m+2^(k%32))&&&(4294967295-2^(k%32))=m:=by
 have c:=e7 lmb b;have j:k%32<32:=afp _ (by omega);have e:=mW lmb b;have l:2^(k+1)=2^(32*(k/32))*2^(k%32+1):=by rw[<- af8];grind
 rw[vK]at e;have r:m=q%2^(31-k%32)*2^(k%32+1):=by
  rw[<- e,val,l,ahl (2^(32*(k/32))),<- agj,ahT _ (agB (by omega))];rw[show(4294967296:Nat)=2^(31-k%32)*2^(k%32+1) by rw[<- af8,show 31-k%32+(k%32+1)=32 by omega],ahx]
 have h:m|||2^(k%32)=m+2^(k%32):=by
  grind [Bz]
 have p:m|||2^(k%32)<4294967296:=ah2 (n:=32) c (afZ (by omega) j);have f:=oQ g (k/32) (m+2^(k%32)) m b;rw[vK]at f;rw[ahr,<- af8,show k%32+32*(k/32)=k by omega]at f;refine⟨h,by omega,by omega,?_⟩;rw[<- h];apply aix;intro i;have o:(4294967295-2^(k%32))=2^32-(2^(k%32)+1):=by omega
 rw[Nat.testBit_and,aiz,o,ahJ (afZ (by omega) j),ahK];grind
theorem An (c:n<4294967296) (b:m<4294967296):IntKind.u32.wrap (((BitVec.ofInt IntKind.u32.bits (n:Int)&&& ~~~BitVec.ofInt IntKind.u32.bits (m:Int)).toNat:Nat):Int)=((n&&&(4294967295-m):Nat):Int):=by
 rw[SP];show(((BitVec.ofInt 32 (n:Int)&&& ~~~BitVec.ofInt 32 (m:Int)).toNat%4294967296:Nat):Int)=_;grind [Nat.and_le_left]
theorem WH {a len k:Nat} (g:Qe a len) (c:g.t=k+1) (f:g.O[k/32]?=some n) (h:(natV g.O+2^k)*(natV g.O+2^k)<=a): ∃b:Qe a len,b.t=k/\b.O=g.O.set (k/32) (n+2^(k%32)):=by
 obtain⟨t,O,l,e,lmb,q,val,r,p⟩:=g;simp only at c f h;subst c;obtain⟨m,j,o,_⟩:=uS l e lmb val f;refine⟨⟨k,_,by omega,by simp[e],pV lmb j,2*q+1,?_,by grind,?_⟩,rfl,rfl⟩
 ·grind
 grind
theorem WJ {a len k:Nat} (g:Qe a len) (c:g.t=k+1) (h:a<(natV g.O+2^k)*(natV g.O+2^k)): ∃b:Qe a len,b.t=k/\b.O=g.O:=by
 obtain⟨t,O,l,e,lmb,q,val,f,j⟩:=g;simp only at c h;subst c;exact⟨⟨k,_,by omega,e,lmb,2*q,by grind,f,h⟩,rfl,rfl⟩
theorem MC {a len:Nat} (g:Qe a len) (h:g.t=0):(natV g.O:Int)=isqF (a:Int):=by
 obtain⟨t,O,e,c,lmb,q,val,f,b⟩:=g;simp only at h;subst h;refine NC.uniq (a:=(a:Int)) ⟨by omega,by grind,?_⟩ (dU (by omega));grind
theorem Cq {a len:Nat} (h:(aD a).length<=2*len):a<(0+2^(32*len))*(0+2^(32*len)):=by
 have b:=j9 (aN a);rw[aJ,vK]at b;rw[afm,<- af8];grind [Nat.lt_of_lt_of_le,Nat.pow_le_pow_right]
/-! A call that reads an own row: the callee is right wherever the row's block holds these numbers. -/
def Jw (L:List Nat):List PV:=L.map fun n:Nat=> .raw (.int .u32 (n:Int))
section
variable {P:Program} {b:Nat} {ty:TypeId}
theorem Mn {i:Nat} (h:zI b ty (Jw g) w) (c:g[i]?=some n):w.cell? ⟨b,i,none⟩=some (.int .u32 (n:Int)):=by
 obtain⟨v,e,f,_⟩:=h.2 i (.raw (.int .u32 (n:Int))) (by simp[Jw,c]);grind
theorem CallG.ofO {cap:Nat} {res:CallRes} (m:CallC P l [eY g] res) (p:kg res) (hL:g.length<=cap) (hm:g.length<=9223372036854775807):CallG P b ty l [.raw (.slice (some ⟨b,0,none⟩) g.length cap)] (Jw g) res:=by
 refine⟨m.1,fun w R=>⟨m.1,fun X vs N J O=>?_⟩⟩;refine(m.2 (fun _=>False) w vs (fun _ h=>h.elim) J fun j t I=>?_).mono ?_
 ·obtain⟨v,v1,v2⟩:=O 0 _ rfl;cases j with
  |succ j=>simp at I
  |zero=>
   simp at I;subst I;refine⟨v,v1,?_⟩;obtain rfl:=(bo (ρ:=fun _ _=>none) (H:=fun _=>[]) v2).1;have e:(ls fU g).length=g.length:=by simp[ls]
   have:=bS.sl (X:=fun _=>False) (w:=w) b 0 1 cap (ls fU g) (fun i _=> .int .u32 (g.getD i 0:Nat)) (fun h=>h) R.lt (fun e q=>by
    obtain⟨z,_,rfl⟩:=aeL.1 q;rfl) (by omega) (by omega) (fun i e j x q D=>by
    grind [ls,fU,Mn]) (fun i e j x q D=>by
    simp only[ls,aeG]at q;obtain⟨z,E,rfl⟩:=adT.1 q;cases j with
    |succ j=>simp[fU]at D
    |zero=>
     simp[fU]at D;subst D;simp only[aeM,E,agu];exact bS.raw _ rfl)
   rw[e]at this;exact this
 rintro e w1 ⟨v,rfl,B,s,Q⟩;have y: ∀(x r:Nat) o,(famH 0 res.fam x)[r]?=some o->o∈res.fam:=fun x r o A=>by
  grind [famH]
 refine⟨v,rfl,B,⟨s.keep,fun x r o A=>?_,s.inj,fun x r o C c A F=>?_,fun C F=>aeT (N C F) s.keep.size,s.self⟩,qf p.1 Q⟩
 ·obtain⟨z1,z2,K⟩:=s.objs x r o A;refine⟨z1,z2,?_⟩;cases G:B x r with
  |none=>grind
  |some M=>
   obtain⟨C,n⟩:=M;rw[G]at K;obtain⟨cells,S,T,U,V,W⟩:=K;refine⟨cells,S,T,U,V,fun i e j z q E=>?_⟩;obtain⟨u,Y,Z,u3⟩:=W i e j z q E;exact⟨u,Y,Z,nd (p.2 o (y x r o A) e (adQ q) z (adQ E)) u3⟩
 have:=(s.old x r o C c A F).1;grind
variable {s:AS} {w0 w:World} {O X:Nat->Prop} {a:Act}
structure abu (ops:Array Oper) (m:Nat) (f:FuncId) (x:Bool) (fa:Nat) (ty:TypeId) (L:List Nat) (s:AS):Prop where
 ts:cwTs ops m s=some (f,[.raw (.bool x),.one (.sl fa 0 0 L.length)])
 row:s.H fa=[⟨ty,1,lc fU L⟩]
theorem Aq (U:dP w0 O X s a w) (ho:q.op= .call r) (R:r.callee= .value (.func l)) {x:Bool} {t:TV} (E: ∀b cap,g.length<=cap->CallG P b ty l [.raw (.bool x),.raw (.slice (some ⟨b,0,none⟩) g.length cap)] (Jw g) ⟨[],t⟩) (af:CallRes.plain ⟨[],t⟩=false) (aa:gy s.ev r.args.toList=some [.raw (.bool x),.one (.sl n 0 0 g.length)]) (ae:s.H n=[⟨ty,1,lc fU g⟩]) (hL:0<g.length) {d:Nat} (S:q.dst=some d) (hK: ∀v w',dP w0 O X (AS.put s q.dst (renTV d t)) (a.put q.dst v) w'->o (a.put q.dst v) w'):q.wp P a w o f:=by
 obtain⟨h1,ab,G,A,B⟩:=U;have B:bz X G s a w:=B;obtain⟨e1,e2⟩:=co aa;obtain⟨y0,ag,ac⟩:=e2 0 _ rfl;obtain⟨y1,ah,ad⟩:=e2 1 _ rfl;have r0:=(bo (ρ:=G) (H:=s.H) (bE B y0 _ ac)).1;have M: ∀j,Xo X G s.H j->j<w.heap.size:=fun b hb=>by
  rcases hb with hb|⟨x,y,o',m,J,g2⟩
  ·exact A.bar b hb
  exact bI (A.objs x y o' J) g2
 obtain⟨o',J,g2,g3⟩:=bE B y1 _ ad;have F:(s.H n)[0]?=some ⟨ty,1,lc fU g⟩:=by grind
 rw[F]at J;injection J with J
 subst J;obtain⟨b,cc,cap,W,hv,D⟩: ∃b cc cap,G n 0=some (b,cc)/\a.eval y1= .slice (some ⟨b,0,none⟩) g.length cap/\g.length<=cap:=by
  grind
 have T:=A.objs n 0 _ F;have N:zI b ty (Jw g) w:=by
  refine⟨bI T W,fun j x hj=>?_⟩;obtain⟨_,_,q3⟩:=T;rw[W]at q3;obtain⟨cells,p1,p2,p3,p4,p5⟩:=q3;simp only[Jw,aeG]at hj;obtain⟨z,hz,rfl⟩:=adT.1 hj;obtain⟨v,v1,v2,v3⟩:=p5 j [.p (.raw (.int .u32 (z:Int)))] 0 _ (by simp[lc,fU,hz]) rfl;have:=(bo (ρ:=G) (H:=s.H) v3).1;grind [World.cell?]
 have V:=gY (w:=w) ho R (e:=a.eval) rfl (E b cap D).1;unfold Oper.wp;rw[V];simp only[Oper.upon];have I:r.args.size=2:=by grind
 refine(((E b cap D).2 w N).2 (Xo X G s.H) (r.args.map a.eval) M (by simp[I]) fun j u C=>?_).mono ?_
 ·match j,C with
  |0,C=>
   simp at C;subst C;refine⟨a.eval y0,?_,by rw[r0];exact bS.raw _ rfl⟩;grind
  |1,C=>
   simp at C;subst C;refine⟨a.eval y1,?_,by rw[hv];exact bS.raw _ rfl⟩;grind
  |j+2,C=>simp at C
 rintro e Z ⟨v,rfl,Y,hi,hr⟩;show o (a.put q.dst v) Z;have:=gW (P:=P) (it:=(⟨0,l,[],⟨[],t⟩⟩:dD P)) (d:=d) (v:=v) (w1:=Z) (ρc:=Y) h1 ab A B rfl rfl (fun h=>(h rfl).elim) (by grind) (by grind);rw[S]at hK⊢;exact hK v Z this
theorem tw (m:Nat) {x:Bool} {r:TV} (B: ∀b cap,g.length<=cap->CallG P b ty l [.raw (.bool x),.raw (.slice (some ⟨b,0,none⟩) g.length cap)] (Jw g) ⟨[],r⟩) (I:CallRes.plain ⟨[],r⟩=false) (F:Nat) (V:0<g.length) (e:List (ar P)) (t:List Nat) {id:Nat} {y:Code} {Q:Exit->AS->Prop} {d:Nat} (W:cwD p m=some d) (hm:m<p.toList.length) (h: ∀K:AS->Prop,(∀q,(abu p m l x F ty g q/\ ∀K:AS->Prop,(∀z,bv P y Q z->K z)->bM P (e.map ar.a) t (aV p (p.toList.drop (m+1)) (m+1)) (some (q.put (some d) (renTV d r))) K)->K q)->bM P (e.map ar.a) t (aV p (p.toList.take m) 0) (some s) K):bv P (.seq (.region id p false) y) Q s:=aj fun w0 O X a w N=>by
 obtain⟨q,G,⟨n,q2⟩,H⟩:=aO P (e.map ar.a) t p _ 0 s _ (h _ fun q h=>h);obtain⟨z,T,U⟩:=aO P (e.map ar.a) t p _ (m+1) _ _ (H (l8 (bv P y Q) Q .normal) fun _ h=>h);obtain⟨o,D⟩: ∃o,p[m]?=some o:=⟨p[m],by simp⟩;have C:o.dst=some d:=by
  grind [cwD]
 unfold cwTs at n;rw[D]at n;simp only at n;split at n
 ·rename_i c Y E;split at n
  ·rename_i S A;split at n
   ·rename_i ts J;injection n with n
    injection n with n M
    subst n M;refine wp_region ?_;have v:p.size=(p.toList.take m).length+(1+(p.toList.drop (m+1)).length):=by grind
    rw[v,afi,<- afk,afm];have u:(p.toList.take m).length=m:=by grind
    refine jt (ar.ok e) (p.toList.take m) 0 s q a w (fun j o Z=>?_) G N fun R w' r'=>?_
    ·grind
    rw[u,agn 1,afj];simp only[wpOps,D];grind [Region.wanted,Aq,fC,ar.ok]
   cases n
  cases n
 cases n
end
theorem MR (l:List Nat) (r:l.length<=1073741824):CallC prog 72 [eY l] ⟨[⟨165,1,lc fU (dC l)⟩],.one (.sl 0 0 0 (dC l).length)⟩:=by
 refine aB func72 rfl ntmps72 (aE (k:=aZ (k:=?_)));refine EG (G:={n:Nat//n<=l.length/\dC l=dC (l.take n)}) (fun n=>⟨(eY l::jk::.raw (.slice none 0 0)::.raw (.int .i64 n.1)::j16 (jk::jk::[])),Hm []⟩) (fun n=>n.1) ⟨l.length,aeJ _,by simp⟩ ?_ ?_
 ·refine ak trivial ?_;simp[wk]
 rintro⟨n,s,q⟩;simp only;by_cases p:0<n
 ·obtain⟨a,m⟩:=getElem?_of_lt (l:=l) (k:=n-1) (by omega);have j:((n:Int)-1).toNat=n-1:=by omega
  refine aj (aF (aG j m) (k:=?_));have o:l.take n=l.take (n-1)++[a]:=by
   have:=agm (i:=n-1) (l:=l) (by omega);grind
  refine aX rfl (fun f=>al ?_) (fun f=>aT ?_)
  ·have h:a=0:=by grind
   refine ao (bK (k:=?_));refine⟨⟨n-1,by omega,?_⟩,by simp only;omega,ak trivial ?_⟩
   ·simp_all[ko]
   have e:((n-1:Nat):Int)=(n:Int)-1:=by omega
   simp[wk,e]
  have h:a≠0:=by grind
  have b:dC l=l.take n:=by grind [sU]
  show bv _ _ _ _;have c:(l.take n).length=n:=by simp;omega
  rw[b,c];refine aF (aG @afl (aG (fj n4) (aG c (jg n4)))) (k:=?_);refine aM ⟨.inr rfl,_,bN.refl _,?_⟩;refine⟨.one (.sl 21 0 0 n),21,?_,rfl,?_,rfl⟩
  ·simp(disch:=omega) only[kd,results72]
  grind [aK,renO,jh]
 have g:n=0:=by omega
 subst g;have b:dC l=[]:=by grind [dC]
 rw[b];refine aj (ax (k:=aX rfl (fun f=>by cases f) (fun f=>aT (aF (aG @afl (fj n4)) (k:=?_)))));refine aM ⟨.inr rfl,_,bN.refl _,?_⟩;refine⟨.one (.sl 21 0 0 0),21,?_,rfl,?_,rfl⟩
 ·simp(disch:=omega) only[kd,results72]
 rfl
theorem tT {H:OH} {d:Nat} {t:TypeId} {l:List Nat} (h:H d=[⟨t,1,lc fU l⟩]):f5 H d (.one (.sl d 0 0 l.length))=eY l:=by
 grind [f5,gn,List.take_of_length_le,lc,jp]
theorem Ca (l:List Nat):kg ⟨[⟨165,1,lc fU l⟩],.one (.sl 0 0 0 l.length)⟩:=by
 refine⟨rfl,fun o c e b x f=>?_⟩;simp at c;subst c;simp only[lc,fU,aeL]at b;obtain⟨y,_,rfl⟩:=b;simp at f;subst f;rfl
theorem LF {b:Nat} (l:List Nat) (h:Lmb l) (e:l.length<=1073741824) {cap:Nat} (f:l.length<=cap):CallG prog b 165 105 [.raw (.bool false),.raw (.slice (some ⟨b,0,none⟩) l.length cap)] (Jw l) ⟨[],tZ (natV l:Int)⟩:=by
 have c:=CallG.ofO (b:=b) (ty:=165) (MR l e) (Ca _) f (by omega);rw[e8 h]at c;refine H6 func105 rfl (by kernel_rfl) ?_;rw[ntmps105];refine aaU (k:=?_);refine Af [⟨1,_,_,_,c,rfl⟩] [] [] fun _ K=>?_;simp(disch:=omega) only[kd,ns.a,aa,ae];apply K
 refine qC.weak ((ak (tm:=(.raw (.bool false)::jk::jk::jk::.one (.ptr 4 0 0 0)::.one (.sl 7 0 0 (aD (natV l)).length)::j4 (j4 (jk::jk::[])))) (l:=[(4,sX),(7,[⟨165,1,lc fU (aD (natV l))⟩])]) ⟨rfl,rfl,trivial⟩ (by simp[wk])).trans ((bR 7 (bj rfl)).trans (ak (tm:=(.raw (.bool false)::jk::jk::jk::.one (.ptr 4 0 0 0)::eY (aD (natV l))::j4 (j4 (jk::jk::[])))) (l:=[(4,sX)]) ⟨rfl,trivial⟩ (by
  simp[wk]
  (repeat' apply adv)<;>first|rfl|exact(tT (d:=7) (t:=165) (l:=aD (natV l)) rfl).symm)))) ?_
 refine adB (k:=?_)
 (refine NJ ⟨.inr rfl,rfl,bQ rfl ?_ rfl⟩;simp(disch:=omega) only[kd,results105,aa,tZ])
 simp[tZ]
end
theorem Be (c:Int) (y:List Int):[AV.p (.raw (.int .i64 c))]::lc fI y=lc fI (c::y):=rfl
theorem rm (c:Int) (y:List Int) (b:y.length<=16):CallC prog 100 [.raw (.int .i64 c),d7 y] ⟨[],d7 (c::y)⟩:=by
 refine aB func100 rfl ntmps100 (aE (k:=?_));refine bf [] [6] fun _ K=>?_;simp(disch:=omega) only[kd,aa,Nat.reduceMul,ah,jg Fb,Be];apply K
 refine aM ⟨.inr rfl,dI 6 (bj rfl) ?_ rfl⟩;simp(disch:=omega) only[kd,results100,d7];grind
theorem GG (n:Nat) (f:FF) (y:List Int) (e:1<=n) (q:n<=8) (o:y.length=n) (m: ∀i j:Nat,Sz (f i j) 1024) (h: ∀z∈y,Sz z 65536):
  CallC prog 156 [dq (mat n n f),qE y] ⟨[],tZ (gG y (NR n n f y) n)⟩:=by
 have p:=Nv n n f y e (by omega) e (by omega) o m h;have l:=C8 y (NR n n f y) (by omega) (by rw[az];omega) (fun z g=>(h z g).mono (by omega)) (fun z g=>by
  obtain⟨j,_,rfl⟩:=aeL.1 g;exact(jX (b:=1024) (c:=65536) (eM fun z g=>by obtain⟨j,_,rfl⟩:=aeL.1 g;exact m _ _) (eM h) n).mono (by omega))
 rw[o]at l;generalize NR n n f y=Y at*
 refine aB func156 rfl ntmps156 (aE (k:=bu [⟨2,_,_,_,p⟩] (k:=bD [⟨2,_,_,_,l⟩] (k:=aI @results156))))
def dL (n:Nat) (f:FF):List Int:=aA (n+1) (dk f)
theorem AG {k:Nat} (f:FF) (h:k<=n):(dL n f)[k]?=some (dk f k):=aw _ (by omega)
theorem E5 (n:Nat) (f:FF):(1:Int)::aA n (fun k=>dk f (k+1))=dL n f:=by
 unfold dL aA;rw[agl,aeX,aga];rfl
def rM (n:Nat) (f:FF):TV:= .agg [.p (.raw (.int .i64 (n:Int))),.p (.sl (ls fB (oY n f n))),.p (.sl (ls fZ (dL n f)))]
theorem Fv (l:List Int):[AV.p (.raw (.bool false)),.p (.sl (ls fU (aD (Int.natAbs 1))))]::lc fZ l=lc fZ (1::l):=rfl
theorem A0 (n:Nat) (f:FF) (b:1<=n) (x:n<=8) (l: ∀t,t<n->dk f (t+1)≠0) (m: ∀i j,i<n->j<n->ju (f i j)):
  CallC prog 48 [bV (mat n n f)] ⟨[],rM n f⟩:=by
 have h:=aS n n f;have o: ∀i j,i<n->j<n->Sz (f i j) 1024:=fun i j u v=>(m i j u v).sz (by omega)
 have p:=Ku n n f b (by omega) b (by omega) m;have q:=xJ n f b x l o;have g:=kB n f b (by omega) o;have e:yw n f=aA n fun k=>dk f (k+1):=ae1 fun k y=>ip fun t z=>l t (by grind)
 unfold Zd at g;rw[e]at g;have r:=er 1 (by omega) (by omega);have w:(aA n fun k=>dk f (k+1)).length=n:=az _ _;have s:(dL n f).length=n+1:=az _ _;have c:=E5 n f;unfold rM;generalize aA n (fun k=>dk f (k+1))=L at*
 refine aB func48 rfl ntmps48 (aE (k:=bu [⟨1,_,_,_,p⟩] (k:=bu [⟨1,_,_,_,q⟩] (k:=bu [⟨1,_,_,_,g⟩] (k:=?_)))));refine iW 7 [⟨3,_,_,_,r⟩] [24] (by simp[wk]) (by decide) fun _ K=>?_;simp(disch:=omega) only[kd,tZ,aa,h,Nat.reduceMul,ah,ae,w,jg pO,Fv,c,Nat.reduceBEq];apply K
 refine⟨_,bR 24 (bj rfl),by simp[wk],?_⟩;simp only[aeX,afh,f5,gn];intro _ K;simp(disch:=omega) only[kd,tZ,aa,ae,ah];apply K
 (refine aM ⟨.inr rfl,bQ rfl ?_ rfl⟩;simp(disch:=omega) only[kd,results48,ae,aa])
 grind
theorem FL (h:Lmb g) (b:g.length<=n):Sz ((natV g:Nat):Int) n:=by
 show((natV g:Nat):Int).natAbs<_;grind [Nat.lt_of_lt_of_le,j9,Nat.pow_le_pow_right]
theorem Gk {b:Type} {l:List b} {i:Nat} {x:b} (h:l[i]?=some x):l.set i x=l:=by
 apply aeW;grind
theorem Kw (a:Int) (h0:0<=a) (D:Sz a 1000000):CallC prog 154 [tZ a] ⟨[],.tup [(true,cZ (isqF a)),(false,[.p (.raw (.bool true))])]⟩:=by
 have cs:=kh a (D.mono (by omega));have hs:0<=sg a:=by grind [sg]
 have hl:=D.len;have T:=km (aD a.natAbs) (by omega);rw[e8 (aN _),aJ]at T;obtain⟨N,hN⟩: ∃N,N=((aD a.natAbs).length+1)/2:=⟨_,rfl⟩;have ab:N<=1000000:=by omega
 have st:=Cq (a:=a.natAbs) (len:=N) (by omega);have e1:IntKind.i64.wrap (((aD a.natAbs).length:Int)+1)=(((aD a.natAbs).length+1:Nat):Int):=by grind [aH]
 have e2:IntKind.i64.wrap (Int.tdiv (((aD a.natAbs).length+1:Nat):Int) 2)=(N:Int):=by
  grind [aH]
 have B:IntKind.i64.wrap (IntKind.i64.wrap (32*(N:Int))-1)=((32*N:Nat):Int)-1:=by
  grind [aH]
 have ea:((a.natAbs:Nat):Int)=a:=by omega
 refine aB func154 rfl ntmps154 (aE (k:=aj (bD [⟨1,_,_,_,cs⟩] (k:=aq rfl (al (bu [⟨2,_,_,_,T⟩] (k:=aF (aG e1 (aG e2 @pU)) (k:=aj (ax (k:=?_))))))))));refine ay (G:=Qe a.natAbs N) (fun g=>⟨(jk::.one (.ptr 1 0 0 0)::.one (.ptr 2 0 0 0)::jk::jk::.one (.sl 19 0 0 N)::.raw (.int .i64 ((g.t:Int)-1))::j16 (j16 (j16 (jk::jk::jk::[])))),Hm [(1,uy false (aD a.natAbs)),(2,sX),(19,[⟨165,1,lc fU g.O⟩])]⟩) (fun g=>g.t) ⟨32*N,af N 0,by omega,by simp,fun x u=>by simp at u;omega,0,by rw[ke,ahO],by rw[ke];omega,by rw[ke];exact st⟩ ?_ ?_
 ·refine ak ⟨rfl,rfl,rfl,trivial⟩ ?_;simp[wk]
 rintro g;obtain⟨t,z⟩: ∃t,t=g.t:=⟨_,rfl⟩;have m:=g.len;have h:=g.lmb;have ad:=g.ht;cases t with
 |zero=>
  have W:=MC g z.symm;rw[ea]at W;have J:((g.t:Int)-1)= -1:=by omega
  rw[J];have j:=kO false g.O h (by omega);rw[show jd false (natV g.O)=(natV g.O:Int)from rfl,W]at j;refine aj (aZ (k:=aq rfl (aT ?_)));show bv _ _ _ _;have I:=tT (H:=Hm [(1,uy false (aD a.natAbs)),(2,sX),(19,[⟨165,1,lc fU g.O⟩])]) (d:=19) (t:=165) (l:=g.O) rfl;rw[m]at I;refine bv.weak ((ak (tm:=(jk::.one (.ptr 1 0 0 0)::.one (.ptr 2 0 0 0)::jk::jk::.one (.sl 19 0 0 N)::j16 (j16 (j16 (j4 ([])))))) (l:=[(1,uy false (aD a.natAbs)),(2,sX),(19,[⟨165,1,lc fU g.O⟩])]) ⟨rfl,rfl,rfl,trivial⟩ (by simp[wk])).trans ((bR 19 (bj rfl)).trans (ak (tm:=(jk::.one (.ptr 1 0 0 0)::.one (.ptr 2 0 0 0)::jk::jk::eY g.O::j16 (j16 (j16 (j4 ([])))))) (l:=[(1,uy false (aD a.natAbs)),(2,sX)]) ⟨rfl,rfl,trivial⟩ (by
   simp[wk]
   (repeat' apply adv)<;>first|rfl|grind)))) ?_
  refine bD [⟨1,_,_,_,j⟩] (k:=aI @results154)
 |succ k=>
  have ag:k/32<N:=by omega
  have ek:(g.t:Int)-1=(k:Int):=by omega
  rw[ek];obtain⟨x,u⟩:=getElem?_of_lt (show k/32<g.O.length by omega);obtain⟨Z,Q,b3,b4⟩:=uS (show k+1<=32*N by omega) m h (by rw[z];exact g.val) u;have L:=e7 h u;have s:2^(k%32)<4294967296:=afZ (a:=2) (n:=32) (by omega) (afp _ (by omega));have X:IntKind.i64.wrap (Int.tdiv (k:Int) 32)=((k/32:Nat):Int):=by
   grind [IntKind.wrap_i64]
  have Y:Int.tmod (k:Int) 32=((k%32:Nat):Int):=by rfl
  have B:IntKind.u32.wrap (1*2^min (k%32) IntKind.u32.bits)=((2^(k%32):Nat):Int):=by
   rw[show min (k%32) IntKind.u32.bits=k%32 from by show min (k%32) 32=_;omega,ag0,show((2:Int)^(k%32))=((2^(k%32):Nat):Int) by rfl,SP,ahk s]
  have U:=ZD x (2^(k%32)) L s;rw[Z]at U;have V:=An Q s;rw[b4]at V;have o:(g.O.set (k/32) (x+2^(k%32)))[k/32]?=some (x+2^(k%32)):=afu (by omega);have e:(g.O.set (k/32) (x+2^(k%32))).set (k/32) x=g.O:=by
   simp_all[Gk]
  have r:(g.O.set (k/32) (x+2^(k%32))).length=N:=by grind
  have f:Lmb (g.O.set (k/32) (x+2^(k%32))):=pV h Q;obtain⟨c,q⟩: ∃c,c=g.O.set (k/32) (x+2^(k%32)):=⟨_,rfl⟩;rw[<- q]at o e r f b3;have j:=fun(b cap:Nat) (hc:c.length<=cap)=>LF (b:=b) c f (by omega) hc
  have y:Sz ((natV c:Nat):Int) 1000000:=FL f (by omega);have S:=gu (natV c:Int) (natV c:Int) (y.mono (by omega)) (y.mono (by omega));have R:=zK ((natV c:Int)*(natV c:Int)) a ((y.mul y).mono (by omega)) (D.mono (by omega));have w:=tT (H:=Hm [(1,uy false (aD a.natAbs)),(2,sX),(19,[⟨165,1,lc fU c⟩])]) (d:=19) (t:=165) (l:=c) rfl;rw[r]at w;generalize F:2^(k%32)=p2 at*
  generalize M:x+p2=y2 at*
  refine aj (ax (k:=aC rfl (al (aj (ao (iH (aG X (aG u (aG Y (aG B (aG U @ir))))) (k:=?_)))))));rw[<- q];refine tw 1 j rfl 19 (by omega) [] [] rfl (by decide) fun K v=>?_
  simp only[kd];apply v;clear v K;refine⟨⟨by rw[r];rfl,rfl⟩,?_⟩;intro K v;simp(disch:=omega) only[kd,aa,ae];apply v;clear v K;by_cases ac:(natV c:Int)*(natV c:Int)<=a
  ·have E:nY ((natV c:Int)*(natV c:Int)) a<=0:=by unfold nY;omega
   obtain⟨C,P,A⟩:=WH g z.symm u (by
    have:((natV g.O+2^k:Nat):Int)*((natV g.O+2^k:Nat):Int)<=((a.natAbs:Nat):Int):=by simp_all
    omega)
   rw[F,M,<- q]at A;refine dR [⟨2,_,_,_,S⟩,⟨4,_,_,_,R⟩] (k:=aq rfl (al (bK (k:=?_))));refine⟨C,by omega,ak ⟨rfl,rfl,by rw[A];rfl,trivial⟩ ?_⟩;simp[wk,P]
  have E:0<nY ((natV c:Int)*(natV c:Int)) a:=by unfold nY;omega
  obtain⟨C,P,A⟩:=WJ g z.symm (by
   have:((a.natAbs:Nat):Int)<((natV g.O+2^k:Nat):Int)*((natV g.O+2^k:Nat):Int):=by simp_all
   omega)
  refine dR [⟨2,_,_,_,S⟩,⟨4,_,_,_,R⟩] (k:=aC rfl (jz (aG X (aG o (aG Y (aG B (aG V (aG @ir e)))))) (k:=bK (k:=?_))));refine⟨C,by omega,ak ⟨rfl,rfl,by rw[A];rfl,trivial⟩ ?_⟩;simp[wk,P]
theorem uN (x y:List Int): ∀l,gG x y l=smF (fun i=>x.getD i 0*y.getD i 0) l
 |0=>rfl
 |l+1=>by rw[smF,<- uN x y l];rfl
def I9 (n:Nat) (f:FF) (y:List Int):Int:=BF n f (fun i=>y.getD i 0) fun i=>y.getD i 0
theorem Bu (f:FF) (c:e.length=n):gG e (NR n n f e) n=I9 n f e:=by
 rw[uN];refine au n fun i b=>?_
 grind [aw,mw]
theorem Bn (v:Int):nN v 1=v/\nD v 1=1:=by
 grind [nN,nD,Int.gcd_one]
def KV (n:Nat) (f:FF):Nat->Nat->Int:=fun i j=>if i<n/\j<n then f i j else 0
theorem Av {i:Nat} (c:i<n) (e:m<n):KV n b i m=b i m:=if_pos ⟨c,e⟩
theorem Cx (f:FF):mat n n (fH f 0)=mat n n (KV n f):=gJ fun i j b c=>by
 rw[Av b c];show bk f 0 (0+i) (0+j)=_;grind [de]
theorem qW (n:Nat) (f:FF) (y:List Int) (o:1<=n) (B:n<=8) (g:y.length=n) (w: ∀i j,i<n->j<n->ju (f i j)) (r: ∀z∈y,ju z):
  CallC prog 101 [rM n f,d7 y] ⟨[],tR (I9 n f y) 1⟩:=by
 have s:=uD y (by omega) r;have szf: ∀i j:Nat,Sz (KV n f i j) 1024:=fun i j=>by
  unfold KV;split
  ·rename_i h;exact(w i j h.1 h.2).sz (by omega)
  exact mu _
 have e: ∀z∈y,Sz z 65536:=fun z l=>(r z l).sz (by omega)
 have m:=GG n (KV n f) y o B g szf e;rw[Bu _ g]at m;have q:I9 n (KV n f) y=I9 n f y:=cf (fun i j x A=>Av x A) (fun _ _=>rfl) (fun _ _=>rfl);have C:Sz (I9 n f y) 200000:=by
  rw[<- q,<- Bu _ g];refine(jX (b:=65536) (c:=70000) (eM e) (eM fun z l=>?_) n).mono (by omega);obtain⟨j,_,rfl⟩:=aeL.1 l;exact(jX (b:=1024) (c:=65536) (eM fun z l=>by obtain⟨j,_,rfl⟩:=aeL.1 l;grind) (eM e) n).mono (by omega)
 rw[q]at m;have p:=tl (I9 n f y) 1 (by omega) (C.mono (by omega)) (ni (by omega));rw[(Bn _).1,(Bn _).2]at p;have u:(oY n f n)[0]?=some (mat n n (KV n f)):=by grind [wc,Cx]
 have v:(dL n f)[0]?=some 1:=AG f (by omega);have t:IntKind.i64.wrap ((n:Int)-(n:Int))=0:=by rw[aiT];rfl
 generalize I9 n f y=V at*
 unfold rM;generalize oY n f n=S at*
 generalize dL n f=D at*
 refine aB func101 rfl ntmps101 (je @fB.eq_1 (k:=aj (aF g (k:=aq rfl (al (d9 (aG g t) (k:=dF [⟨6,_,_,_,s⟩,⟨7,_,_,_,m⟩,⟨13,_,_,_,p⟩] (aG u v) (k:=aI @results101))))))))
theorem MD (p:RedR b n) (z:n<=4) {k i:Nat} (y:k<n) (q:i<n-k) (x:m<n-k):Sz (fH b k i m) 2:=by
 have e:=p.pd;have o: ∀t,t<n->dk b (t+1)≠0:=fun t l=>by have:=e.2 t l;omega
 have g:=fW (by omega) (by omega) p;have w:0<dk b k/\dk b k<65536:=by
  cases k with
  |zero=>rw[b8];omega
  |succ k=>exact⟨e.2 k (by omega),g k (by omega)⟩
 have key: ∀a c,a<n-k->c<=a->Sz (bk b k (k+a) (k+c)) 2:=fun a c u v=>by
  have r:=uT e.1 e.2 g (fun t l=>(p.2.2.2 t l).1) (i:=k+a) (by omega) c (k+c) k rfl (by omega);have s:(65535+(c:Int)*16384)*dk b k<=(65535+4*16384)*65536:=ae0 (by omega) (by omega) (by omega) (by omega);show(bk b k (k+a) (k+c)).natAbs<_;omega
 rcases Nat.le_total m i with h|h
 ·exact key i m q h
 show Sz (bk b k (k+i) (k+m)) 2;rw[iJ e.1 k (by omega) (fun t l=>o t (by omega)) _ _ (by omega) (by omega)];grind
noncomputable def Y9 (n:Nat) (f:FF) (B:Int) (k:Nat) (y:List Int):TV:= .tup [(false,[.p (.raw (.int .i64 (cu f n B k (aL n y))))]),(false,[.p (.raw (.int .i64 (dy f n B k (aL n y))))])]
theorem BY (m:Nat) (g:Nat->Int):(aA (m+1) g).drop 1=aA m fun j=>g (j+1):=by
 simp_all[aA,agl]
theorem pP (h:ju x):kK x= .tup [(false,[.p (.raw (.int .i64 x))]),(false,[.p (.raw (.bool true))])]:=if_pos h
theorem j1 (n:Nat) (f:FF) (B:Int) (k:Nat) (y:List Int) (hn:n<=4) (v:RedR f n) (hf: ∀i j,i<n->j<n->ju (f i j)) (h0:0<=B) (hB:B<=262144) (Y:y.length+(k+1)=n) (hy:uw y) (U:fq f n B (k+1) (aL n y)):
  CallC prog 99 [rM n f,.raw (.int .i64 B),d7 y] ⟨[],Y9 n f B k y⟩:=by
 have Z:=v.pd;have o:k<n:=by omega
 obtain⟨m,H⟩: ∃m,m=y.length:=⟨_,rfl⟩;have iy: ∀z∈y,ju z:=fun z t=>by
  have h1:=hy.bd z t;have h2:=g9 y.length (by omega);constructor<;>omega
 have O: ∀z∈y,Sz z 2:=fun z t=>(iy z t).sz (by omega)
 have sg: ∀i j,i<n-k->j<n-k->Sz (fH f k i j) 2:=fun i j h hj=>MD v hn o h hj
 have hd:=v.2.1 k o;have J:Sz (dk f (k+1)) 1:=kA (by have:=fW (by omega) (by omega) v k o;omega) (by omega);have V:0<dk f k/\dk f k<65536:=by
  cases k with
  |zero=>rw[b8];omega
  |succ k=>exact⟨v.2.1 k (by omega),fW (by omega) (by omega) v k (by omega)⟩
 have sd:Sz (dk f k) 1:=kA (by omega) (by omega);have sB:Sz B 1:=kA (by omega) (by omega);obtain⟨b1,b2⟩:=jv v hn h0 hB Y hy U;have tb:=g9 (y.length+1) (by omega);have el:=Mx f Y;have P:=Of Z Y B;have x:=oZ Z o U;have g1:(oY n f n)[k]?=some (mat (m+1) (m+1) (fH f k)):=by grind [wc]
 have g2:(dL n f)[k]?=some (dk f k):=AG f (by omega);have e0:IntKind.i64.wrap ((n:Int)-(m:Int))=((k+1:Nat):Int):=by grind [aH]
 have e1:IntKind.i64.wrap (((k+1:Nat):Int)-1)=(k:Int):=by grind [aH]
 have hw:dk f (k+1)=fH f k 0 0:=rfl;have c1:=uD y (by omega) iy;have rs: ∀i,i<=m-> ∀z∈aA m (fun j=>fH f k i (j+1)),Sz z 2:=fun i h z t=>by
  obtain⟨j,hj,rfl⟩:=aeL.1 t;grind
 have c2: ∀i,i<=m->CallC prog 153 [qE (aA m fun j=>fH f k i (j+1)),qE y] ⟨[],tZ (gG (aA m fun j=>fH f k i (j+1)) y m)⟩:=fun i h=>by
  have:=C8 (aA m fun j=>fH f k i (j+1)) y (by rw[az];omega) (by rw[az];omega) (fun z t=>(rs i h z t).mono (by omega)) (fun z t=>(O z t).mono (by omega));grind [az]
 have N: ∀i,i<=m->Sz (gG (aA m fun j=>fH f k i (j+1)) y m) 8:=fun i h=>(jX (eM (rs i h)) (eM O) m).mono (by omega)
 have sq: ∀i,i<=m->Sz (BK (fH f k) y i) (16+i):=fun i=>by
  induction i with
  |zero=>exact fun _=>mu _
  |succ i ih=>
   intro h;have:=N (i+1) (by omega);rw[H]at this;exact((ih (by omega)).add (((eM O i).mul this).mono (by omega))).mono (by omega)
 have b:Sz (gG (aA m fun j=>fH f k 0 (j+1)) y m) 8:=N 0 (by omega);rw[H,el]at b;have sQ:=sq m (aeJ _);rw[H]at sQ;have sC:Sz (BK (fH f k) y y.length-B*dk f k) 24:=(Sz.sub (k:=20) (sQ.mono (by omega)) ((sB.mul sd).mono (by omega))).mono (by omega);have K:Sz (gE f n B k (aL n y)) 40:=by
  rw[<- P];exact(Sz.sub (k:=30) ((b.mul b).mono (by omega)) ((J.mul sC).mono (by omega))).mono (by omega)
 have C:=dU x;have u:Sz (isqF (gE f n B k (aL n y))) 40:=K.le (by
  have h1:=C.1;have h2:=C.2.1;generalize isqF (gE f n B k (aL n y))=r at*
  generalize gE f n B k (aL n y)=q at*
  by_cases e:r=0
  ·rw[e];simp
  have:=aeO (show 1<=r by omega) h1;omega)
 have k1:=er B (by omega) (by omega);have m1:=gu B (dk f k) (sB.mono (by omega)) (sd.mono (by omega));have m2:=ta (BK (fH f k) y y.length) (B*dk f k) (sQ.mono (by omega)) ((sB.mul sd).mono (by omega));have m3:=gu (jU f n k (aL n y)) (jU f n k (aL n y)) (b.mono (by omega)) (b.mono (by omega));have m4:=gu (dk f (k+1)) (BK (fH f k) y y.length-B*dk f k) (J.mono (by omega)) (sC.mono (by omega));have m5:=ta (jU f n k (aL n y)*jU f n k (aL n y)) (dk f (k+1)*(BK (fH f k) y y.length-B*dk f k)) ((b.mul b).mono (by omega)) ((J.mul sC).mono (by omega));rw[P]at m5;have m6:=Kw (gE f n B k (aL n y)) x (K.mono (by omega));have m7:=ta (isqF (gE f n B k (aL n y))) (jU f n k (aL n y)) (u.mono (by omega)) (b.mono (by omega));have m8:=s9 (isqF (gE f n B k (aL n y))-jU f n k (aL n y)) (dk f (k+1)) (by omega) ((Sz.sub u (b.mono (by omega))).mono (by omega)) (J.mono (by omega));have s:ju (cu f n B k (aL n y)):=by constructor<;>omega
 have w:ju (dy f n B k (aL n y)):=by constructor<;>omega
 have m9:=nt (dy f n B k (aL n y)) (w.sz (by omega));rw[pP w]at m9;have aa:=ql (isqF (gE f n B k (aL n y))) (jU f n k (aL n y)) (u.mono (by omega)) (b.mono (by omega));have ab:=s9 (isqF (gE f n B k (aL n y))+jU f n k (aL n y)) (dk f (k+1)) (by omega) ((Sz.add u (b.mono (by omega))).mono (by omega)) (J.mono (by omega));have ac:=I4 ((isqF (gE f n B k (aL n y))+jU f n k (aL n y))/dk f (k+1)) (by
  have:=(s.sz (k:=2) (by omega)).neg;rw[show cu f n B k (aL n y)= -((isqF (gE f n B k (aL n y))+jU f n k (aL n y))/dk f (k+1))from rfl,Int.neg_neg]at this;exact this.mono (by omega))
 have E:=nt (cu f n B k (aL n y)) (s.sz (by omega));rw[pP s]at E;rw[show cu f n B k (aL n y)= -((isqF (gE f n B k (aL n y))+jU f n k (aL n y))/dk f (k+1))from rfl]at E;rw[show dy f n B k (aL n y)=(isqF (gE f n B k (aL n y))-jU f n k (aL n y))/dk f (k+1)from rfl]at m9;unfold Y9;rw[show cu f n B k (aL n y)= -((isqF (gE f n B k (aL n y))+jU f n k (aL n y))/dk f (k+1))from rfl];rw[show dy f n B k (aL n y)=(isqF (gE f n B k (aL n y))-jU f n k (aL n y))/dk f (k+1)from rfl];have f0:(mat (m+1) (m+1) (fH f k))[0]?=some (aA (m+1) (fH f k 0)):=bA _ _ (by omega);have f1:(aA (m+1) (fH f k 0))[0]?=some (dk f (k+1)):=aw _ (by omega);have fl: ∀i,(aA (m+1) (fH f k i)).length=m+1:=fun i=>az _ _
 have ft: ∀i,((aA (m+1) (fH f k i)).take (m+1)).drop 1=aA m fun j=>fH f k i (j+1):=fun i=>by grind [BY]
 have fi: ∀i,i<m->(mat (m+1) (m+1) (fH f k))[i+1]?=some (aA (m+1) (fH f k (i+1))):=fun i h=>bA _ _ (by omega)
 have qs: ∀i,BK (fH f k) y (i+1)=BK (fH f k) y i+y.getD i 0*gG (aA y.length fun j=>fH f k (i+1) (j+1)) y y.length:=fun i=>rfl
 have F:=c2 0 (by omega);rw[<- H]at el;rw[el]at F;subst H;generalize isqF (gE f n B k (aL n y))=r at*
 generalize gE f n B k (aL n y)=q at*
 generalize jU f n k (aL n y)=l at*
 generalize hg:fH f k=g at*
 generalize dk f (k+1)=D at*
 generalize dk f k=d at*
 have ad:(mat (y.length+1) (y.length+1) g).length=y.length+1:=aS _ _ _;generalize hM:mat (y.length+1) (y.length+1) g=M at*
 unfold rM;generalize oY n f n=S at*
 generalize dL n f=dl at*
 clear b1 b2 tb el U s w C P x Z v hf hg hM;refine aB func99 rfl ntmps99 (je @fB.eq_1 (k:=d9 (aG e0 e1) (k:=aF g1 (k:=bu [⟨1,_,_,_,c1⟩] (k:=ce [⟨5,_,_,_,F⟩] (aG f0 (aG fl (aG @ahH (aG (fj pO) ft)))) (k:=ax (k:=aj (aZ (k:=?_)))))))));refine ay (G:=fp y.length) (fun L=>⟨(jk::.raw (.int .i64 B)::jk::.one (.ptr 3 0 0 0)::j4 (.raw (.int .i64 (k:Int))::dq M::qE y::.one (.ptr 11 0 0 0)::.one (.ptr 12 0 0 0)::j16 (j4 (j4 (j4 (.raw (.int .i64 (y.length:Int))::rN L.i::j16 (j16 (j16 (j16 (j4 (j4 ([])))))))))))),Hm [(3,[⟨87,3,[[.p (.raw (.int .i64 (n:Int))),.p (.sl (ls fB S)),.p (.sl (ls fZ dl))]]⟩]),(11,oh l),(12,oh (BK g y L.i))]⟩) (fun L=>y.length-L.i) ⟨0,by omega⟩ ?_ ?_
 ·refine(io 12).trans (ak ⟨rfl,rfl,?_,trivial⟩ ?_)
  ·show _=oh 0;simp[zH,aK,zO,GP,GV,oh,uy,cX,ls]
  simp[wk]
 rintro⟨i,h⟩;simp only;by_cases I:i<y.length
 ·obtain⟨c,V⟩:=getElem?_of_lt I;have W:y.getD i 0=c:=by grind
  have sc:=O c (adQ V);have d1:=c2 (i+1) (by omega);have d2:=gu c (gG (aA y.length fun j=>g (i+1) (j+1)) y y.length) (sc.mono (by omega)) ((N (i+1) (by omega)).mono (by omega));have d3:=ql (BK g y i) (c*gG (aA y.length fun j=>g (i+1) (j+1)) y y.length) ((sq i (by omega)).mono (by omega)) ((sc.mul (N (i+1) (by omega))).mono (by omega));have q1:=qs i;rw[W]at q1;rw[<- q1]at d3;have Q:=fi i I;have R:=fl (i+1);have T:=ft (i+1);have ei:IntKind.i64.wrap ((i:Int)+1)=((i+1:Nat):Int):=by rw[aH (by omega) (by omega)];omega
  generalize gG (aA y.length fun j=>g (i+1) (j+1)) y y.length=A at*
  refine aF @fB.eq_1 (k:=aP rfl (aj (ao (aZ (k:=fP [⟨12,_,_,_,d1⟩,⟨13,_,_,_,d2⟩,⟨14,_,_,_,d3⟩] (aG V (aG ei (aG Q (aG R (aG @ahH (aG (fj pO) T)))))) (k:=bK (k:=?_)))))));refine⟨⟨i+1,by omega⟩,by grind,ak ⟨rfl,rfl,rfl,trivial⟩ ?_⟩;simp[wk]
 have X:i=y.length:=by omega
 subst X;refine aF @fB.eq_1 (k:=aQ rfl (dF [⟨2,_,_,_,k1⟩,⟨8,_,_,_,m1⟩,⟨9,_,_,_,m2⟩] g2 (k:=dF [⟨2,_,_,_,m3⟩,⟨9,_,_,_,m4⟩,⟨10,_,_,_,m5⟩,⟨11,_,_,_,m6⟩] (aG f0 f1) (k:=dF [⟨2,_,_,_,m7⟩,⟨8,_,_,_,m8⟩,⟨9,_,_,_,m9⟩] (aG f0 f1) (k:=dF [⟨2,_,_,_,aa⟩,⟨8,_,_,_,ab⟩,⟨9,_,_,_,ac⟩,⟨10,_,_,_,E⟩] (aG f0 f1) (k:=aZ (k:=aI @results99)))))))
abbrev Il (c:List Int):OObj:=⟨3,1,lc fI c⟩
abbrev CV (c:List Int):List OObj:=[Il c]
theorem kj {F:Nat->Int} {i:Nat} (h:i<=n) (b: ∀a,a<n->0<=F a):smF F i<=smF F n:=by
 induction n with
 |zero=>grind
 |succ n c=>
  grind [smF]
structure CtG (n:Nat) (bud lo hi:Int) (g:Int->List Int->Bool×List Int) (R:Bool×List Int) where
 x:Int
 c:List Int
 h1:lo<=x
 h2:x<=hi+1
 hc:CtP n bud c
 e:ctL g (rng x hi) c=R
theorem mO (n:Nat) (f:FF) (B b:Int) (k:Nat) (y c:List Int) (hn:n<=4) (P:RedR f n) (hf: ∀i j,i<n->j<n->ju (f i j)) (h0:0<=B) (hB:B<=262144) (hb:0<=b) (ac:b<=1000000) (hk:y.length+(k+1)=n) (hy:uw y) (J:fq f n B (k+1) (aL n y)) (A:CtP n b c)
  (g:Int->List Int->Bool×List Int) (hg: ∀x c,CtP n b c->(g x c).1=true->CtP n b (g x c).2)
  (ab:(AF n f B b k y c fun e=>if k=0 then(true,e)else ctL g (rng (cu f n B k (aL n y)) (dy f n B k (aL n y))) e).2.length=n)
  (E:k≠0-> ∀x c,cu f n B k (aL n y)<=x->x<=dy f n B k (aL n y)->CtP n b c->im prog 96 [rM n f,.raw (.int .i64 B),d7 (x::y),jk,.raw (.int .i64 b)] 3 0 n (Il c) (Il (g x c).2) (.raw (.bool (g x c).1))):
  im prog 96 [rM n f,.raw (.int .i64 B),d7 y,jk,.raw (.int .i64 b)] 3 0 n (Il c)
   (Il (AF n f B b k y c fun e=>if k=0 then(true,e)else ctL g (rng (cu f n B k (aL n y)) (dy f n B k (aL n y))) e).2)
   (.raw (.bool (AF n f B b k y c fun e=>if k=0 then(true,e)else ctL g (rng (cu f n B k (aL n y)) (dy f n B k (aL n y))) e).1)):=by
 have cI:=j1 n f B k y hn P hf h0 hB hk hy J;have cL:=fun x=>rm x y (by omega)
 obtain⟨b1,b2⟩:=jv P hn h0 hB hk hy J;have tb:=g9 (y.length+1) (by omega);unfold Y9 at cI;generalize h:(AF n f B b k y c fun e=>if k=0 then(true,e)else ctL g (rng (cu f n B k (aL n y)) (dy f n B k (aL n y))) e)=R at*
 unfold AF at h;generalize cu f n B k (aL n y)=o at*
 generalize dy f n B k (aL n y)=m at*
 unfold rM at*
 generalize oY n f n=S at*
 generalize dL n f=H at*
 clear J P hf hy;have D:=A.1;refine oC func96 rfl (by kernel_rfl) (by simp) (by omega) (by simp only[fO];omega) (cd _ _) rfl (by simp only[fO];omega) (cd _ _) rfl (lu ?_);rw[ntmps96];refine eF.weak (ak (tm:=(.agg [.p (.raw (.int .i64 (n:Int))),.p (.sl (ls fB S)),.p (.sl (ls fZ H))]::.raw (.int .i64 B)::d7 y::.one (.sl 0 0 0 n)::.raw (.int .i64 b)::j16 (j16 (j16 (j16 (j4 (j4 (jk::jk::jk::[])))))))) (l:=[(0,CV c)]) ⟨rfl,trivial⟩ (by simp[wk,af])) ?_;refine bU (k:=Ak [⟨3,_,_,_,cI⟩] (k:=bU (k:=?_)));by_cases I:m<o
 ·rw[if_pos I]at h;subst h;refine aR (dh I (k:=d8 rfl (bU (k:=?_))));refine dX ⟨.inr rfl,_,ak (tm:=(jk::jk::jk::.one (.sl 0 0 0 n)::j4 (jk::jk::.raw (.bool true)::j16 (j16 (j16 (j16 (j4 (jk::[])))))))) (l:=[(0,CV c)]) ⟨rfl,trivial⟩ (by simp[wk]),rfl,eZ _,?_⟩;simp(disch:=omega) only[kd,results96]
 rw[if_neg I]at h;refine aR (bU (k:=dO rfl (cb ?_)));by_cases h2:b<=m-o
 ·rw[if_pos h2]at h;subst h;refine aR (bU (k:=d8 rfl (bU (k:=?_))));refine dX ⟨.inr rfl,_,ak (tm:=(jk::jk::jk::.one (.sl 0 0 0 n)::j4 (jk::jk::.raw (.bool false)::j16 (j16 (j16 (j16 (j4 (jk::[])))))))) (l:=[(0,CV c)]) ⟨rfl,trivial⟩ (by simp[wk]),rfl,eZ _,?_⟩;simp(disch:=omega) only[kd,results96]
 rw[if_neg h2]at h;refine aR (bU (k:=dO rfl (cb ?_)));obtain⟨v,hv⟩:=getElem?_of_lt (show y.length<c.length by omega);have ev:c.getD y.length 0=v:=by grind
 have hm:AC y.length (m-o) c=c.set y.length (v+(m-o+1)):=by grind [AC]
 have X:=A.2.1 y.length (by omega);have Y:=D9 A.2.1 (show y.length<n by omega);rw[ev]at X Y;have N:(AC y.length (m-o) c).length=n:=by grind
 have r:=AE D (show y.length<n by omega) (show 0<=m-o by omega) A.2.1;have ad:=uZ (d:=m-o) D (show y.length<n by omega);have ag:=A.2.2;refine dh (aG hv @OK) (k:=?_);rw[<- hm];generalize AC y.length (m-o) c=e at*
 refine bU (k:=aR (bU (k:=?_)));refine dT (G:=fp n) (fun g=>⟨(jk::.raw (.int .i64 B)::d7 y::.one (.sl 0 0 0 n)::.raw (.int .i64 b)::.one (.ptr 5 0 0 0)::j4 (jk::.raw (.int .i64 o)::.raw (.int .i64 m)::rN y.length::.raw (.int .i64 (sL g.i e))::j16 (j4 (j4 (j4 (jk::jk::.one (.sl 0 0 0 n)::rN n::rN g.i::j16 (j16 ([])))))))),Hm [(0,CV e),(5,[⟨87,3,[[.p (.raw (.int .i64 (n:Int))),.p (.sl (ls fB S)),.p (.sl (ls fZ H))]]⟩])]⟩) (fun _=>()) (fun g=>n-g.i) ⟨0,by omega⟩ ?_ rfl ?_
 ·refine ak ⟨rfl,rfl,trivial⟩ ?_;simp[wk,sL,smF]
 rintro⟨i,ae⟩;simp only;by_cases O:i<n
 ·obtain⟨u,hu⟩:=getElem?_of_lt (show i<e.length by omega);have eu:e.getD i 0=u:=by grind
  have T:sL (i+1) e=sL i e+u:=by rw[<- eu];rfl
  have U:=kj (F:=fun j=>e.getD j 0) (show i+1<=n by omega) fun a ha=>r a ha
  have V:=kj (F:=fun j=>e.getD j 0) (show 0<=i by omega) fun a ha=>r a (by omega)
  have W:=r i O;rw[eu]at W
  change sL (i+1) e<=sL n e at U
  change 0<=sL i e at V
  have ei:IntKind.i64.wrap ((i:Int)+1)=((i+1:Nat):Int):=by grind [aH]
  refine bU (k:=nT rfl (aR (cQ (dh hu (k:=tD (k:=jW ei (k:=?_)))))));refine⟨⟨i+1,by omega⟩,by grind,ak ⟨rfl,rfl,trivial⟩ ?_,trivial⟩;simp[wk,T]
 have M:i=n:=by omega
 subst M;refine bU (k:=po rfl ?_);show eF _ _ _ _ _ _ _;by_cases h3:b<sL i e
 ·rw[if_pos h3]at h;subst h;refine aR (bU (k:=d8 rfl (bU (k:=?_))));refine dX ⟨.inr rfl,_,ak (tm:=(jk::jk::jk::.one (.sl 0 0 0 i)::j4 (jk::jk::.raw (.bool false)::j16 (j16 (j16 (j16 (j4 (jk::[])))))))) (l:=[(0,CV e)]) ⟨rfl,trivial⟩ (by simp[wk]),rfl,eZ _,?_⟩;simp(disch:=omega) only[kd,results96]
 rw[if_neg h3]at h
 replace h:(if k=0 then(true,e)else ctL g (rng o m) e)=R:=h
 refine aR (bU (k:=dO rfl (cb (aR (bU (k:=?_))))));have em:IntKind.i64.wrap ((y.length:Int)+1)=((y.length+1:Nat):Int):=by grind [aH]
 by_cases w:k=0
 ·rw[if_pos w]at h;subst h;refine dT (G:=Unit) (fun g=>⟨(jk::.raw (.int .i64 B)::d7 y::.one (.sl 0 0 0 i)::.raw (.int .i64 b)::.one (.ptr 5 0 0 0)::j4 (jk::.raw (.int .i64 o)::.raw (.int .i64 m)::rN y.length::jk::jk::jk::.raw (.int .i64 o)::j16 (j16 (j16 (j4 (j4 (j4 (jk::jk::[])))))))),Hm [(0,CV e),(5,[⟨87,3,[[.p (.raw (.int .i64 (i:Int))),.p (.sl (ls fB S)),.p (.sl (ls fZ H))]]⟩])]⟩) (fun _=>()) (fun g=>0) () ?_ rfl ?_
  ·refine ak ⟨rfl,rfl,trivial⟩ ?_;simp[wk]
  intro _;simp only;refine aR (dh em (k:=dO rfl (gV (bU (k:=?_)))));refine dX ⟨.inr rfl,_,ak (tm:=(jk::jk::jk::.one (.sl 0 0 0 i)::j4 (jk::jk::.raw (.bool true)::j16 (j16 (j16 (j16 (j4 (jk::[])))))))) (l:=[(0,CV e)]) ⟨rfl,trivial⟩ (by simp[wk]),rfl,eZ _,?_⟩;simp(disch:=omega) only[kd,results96]
 rw[if_neg w]at h;refine dT (G:=CtG i b o m g R) (fun g=>⟨(jk::.raw (.int .i64 B)::d7 y::.one (.sl 0 0 0 i)::.raw (.int .i64 b)::.one (.ptr 5 0 0 0)::j4 (jk::.raw (.int .i64 o)::.raw (.int .i64 m)::rN y.length::jk::jk::jk::.raw (.int .i64 g.x)::j16 (j16 (j16 (j4 (j4 (j4 (jk::jk::[])))))))),Hm [(0,CV g.c),(5,[⟨87,3,[[.p (.raw (.int .i64 (i:Int))),.p (.sl (ls fB S)),.p (.sl (ls fZ H))]]⟩])]⟩) (fun _=>()) (fun g=>(m+1-g.x).toNat) ⟨o,e,by omega,by omega,⟨N,r,by omega⟩,h⟩ ?_ rfl ?_
 ·refine ak ⟨rfl,rfl,trivial⟩ ?_;simp[wk]
 rintro⟨x,s,h4,h5,C,t⟩;simp only;by_cases hx:x<=m
 ·have Q:=E w x s h4 hx C;have ex:IntKind.i64.wrap (x+1)=x+1:=aH (by omega) (by omega);rw[vW hx,ctL]at t;refine aR (dh em (k:=d8 rfl (cb (aR (cQ (Ag bZ 7 Q 0 0 [⟨4,_,_,_,cL x⟩] [] (by kernel_rfl) (by kernel_rfl) (by kernel_rfl) (by simp[wk]) (by omega) rfl (cd _ _) (by decide) (by decide) fun K z=>?_))))));simp only[kd,d7,aa,reduceCtorEq];apply z;clear z K;refine⟨⟨rfl,rfl⟩,?_⟩;intro K z;simp only[kd,aa,Im,cwD,reduceCtorEq];apply z;clear z K;by_cases q:(g x s).1=true
  ·rw[if_pos q]at t;rw[q];refine dO rfl (cb (jW ex (k:=?_)));refine⟨⟨x+1,(g x s).2,by omega,by omega,hg x s C q,t⟩,by simp only;omega,?_,trivial⟩;refine ak ⟨rfl,rfl,trivial⟩ ?_;simp[wk]
  rw[if_neg q]at t;subst t;have L:(g x s).1=false:=by grind
  rw[L];refine d8 rfl (bU (k:=?_));refine dX ⟨.inr rfl,_,ak (tm:=(jk::jk::jk::.one (.sl 0 0 0 i)::j4 (jk::jk::.raw (.bool false)::j16 (j16 (j16 (j16 (j4 (jk::[])))))))) (l:=[(0,CV (g x s).2)]) ⟨rfl,trivial⟩ (by simp[wk]),rfl,eZ _,?_⟩;simp(disch:=omega) only[kd,results96]
 have Z:x=m+1:=by omega
 subst Z;rw[qa (by omega),ctL]at t;subst t;refine aR (bU (k:=dO rfl (gV (bU (k:=?_)))));refine dX ⟨.inr rfl,_,ak (tm:=(jk::jk::jk::.one (.sl 0 0 0 i)::j4 (jk::jk::.raw (.bool true)::j16 (j16 (j16 (j16 (j4 (jk::[])))))))) (l:=[(0,CV s)]) ⟨rfl,trivial⟩ (by simp[wk]),rfl,eZ _,?_⟩;simp(disch:=omega) only[kd,results96]
theorem uX (n:Nat) (f:FF) (B b:Int) (v:n<=4) (l:RedR f n) (z: ∀i j,i<n->j<n->ju (f i j)) (t:0<=B) (u:B<=262144) (w:0<=b) (o:b<=1000000): ∀(k:Nat) (y c:List Int),y.length+(k+1)=n->uw y->fq f n B (k+1) (aL n y)->CtP n b c->
  im prog 96 [rM n f,.raw (.int .i64 B),d7 y,jk,.raw (.int .i64 b)] 3 0 n (Il c) (Il (CU n f B b k y c).2) (.raw (.bool (CU n f B b k y c).1))
 |0,y,c,g,s,q,p=>by
  have m:=(pH (f:=f) (B:=B) 0 y c g p).1;exact mO n f B b 0 y c v l z t u w o g s q p (fun _ c=>(true,c)) (fun _ _ h _=>h) m (fun h=>absurd rfl h)
 |k+1,y,c,g,s,q,p=>by
  have m:=(pH (f:=f) (B:=B) (k+1) y c g p).1;have e: ∀(x:Int),(x::y).length+(k+1)=n:=fun x=>by grind
  refine mO n f B b (k+1) y c v l z t u w o g s q p (fun x=>CU n f B b k (x::y)) (fun x c h r=>((pH k (x::y) c (e x) h).2 r).1) m fun _ x c F E p=>?_
  obtain⟨C,D⟩:=jv l v t u g s q;have r: ∀i,k+1<i->i<n->aL n (x::y) i=aL n y i:=fun i m _=>ia g m
  refine uX n f B b v l z t u w o k (x::y) c (e x) (s.cons (by omega)) ?_ p;rw[ig l.pd (by omega) ((fq.tail l.pd (by omega) fun i m A=>r i m A).2 q),iV g,lf l.pd (by omega) r,k9 l.pd (by omega) r];omega
theorem mS (c:1<=n) (f:n<=4) (e:RedR b n):isReducedM (mat n n b)=true:=(iL _).2 ((zZ c).2 ⟨rfl,by omega,e⟩)
theorem qO (n:Nat) (f:FF) (B b c:Int) (e:1<=n) (p:n<=4) (j:RedR f n) (l:0<=B) (m:B<=b) (o:0<=c) (h:c<=1000000):
  CallC prog 46 [bV (mat n n f),.raw (.int .i64 B),.raw (.int .i64 b),.raw (.int .i64 c)] ⟨[],.raw (.int .i64 0)⟩:=by
 have g:=nu (mat n n f) (mS e (by omega) j);generalize mat n n f=M at*
 refine aB func46 rfl ntmps46 (aE (k:=aj (bu [⟨1,_,_,_,g⟩] (k:=aq rfl (al (aj (ax (k:=aq rfl (al (aZ (k:=aI @results46)))))))))))
theorem Ml (n:Nat) (c:List Int) (w:n<=4) (s:c.length=n) (b: ∀i,i<n->0<=c.getD i 0) (x:sL n c<=1000000):
  CallC prog 70 [d7 c] ⟨[],.raw (.int .i64 (sL n c))⟩:=by
 refine aB func70 rfl ntmps70 (aE (k:=aZ (k:=aj (d9 s (k:=?_)))));refine ay (G:=fp n) (fun g=>⟨(jk::jk::jk::.raw (.int .i64 (sL g.i c))::jk::jk::d7 c::rN n::rN g.i::j4 (j4 ([]))),Hm []⟩) (fun g=>n-g.i) ⟨0,by omega⟩ ?_ ?_
 ·refine ak trivial ?_;simp[wk,sL,smF]
 rintro⟨i,t⟩;simp only;by_cases f:i<n
 ·obtain⟨u,v⟩:=getElem?_of_lt (show i<c.length by omega);have p:c.getD i 0=u:=by grind
  have h:sL (i+1) c=sL i c+u:=by rw[<- p];rfl
  have l:=kj (F:=fun j=>c.getD j 0) (show i+1<=n by omega) fun a q=>b a q
  have m:=kj (F:=fun j=>c.getD j 0) (show 0<=i by omega) fun a q=>b a (by omega)
  have o:=b i f;rw[p]at o
  change sL (i+1) c<=sL n c at l
  change 0<=sL i c at m
  have r:IntKind.i64.wrap ((i:Int)+1)=((i+1:Nat):Int):=by grind [aH]
  refine ax (k:=aP rfl (aj (ao (aF v (k:=bK (k:=df r (k:=?_)))))));refine⟨⟨i+1,by omega⟩,by grind,ak trivial ?_⟩;simp[wk,h]
 have e:i=n:=by omega
 subst e;refine ax (k:=aQ rfl (aZ (k:=aI @results70)))
theorem tj (n:Nat) (f:FF) (p:n<=4):CallC prog 67 [bV (mat n n f)] ⟨[],.raw (.int .i64 (dN f n))⟩:=by
 have h:=aS n n f;refine aB func67 rfl ntmps67 (aE (k:=aZ (k:=aj (d9 h (k:=?_)))));refine ay (G:=fp n) (fun g=>⟨(bV (mat n n f)::jk::jk::.raw (.int .i64 (dN f g.i))::jk::jk::rN n::rN g.i::j16 (j4 ([]))),Hm []⟩) (fun g=>n-g.i) ⟨0,by omega⟩ ?_ ?_
 ·refine ak trivial ?_;simp[wk,dN]
 rintro⟨i,o⟩;simp only;by_cases c:i<n
 ·have j:=bA n f c;have l:=aw (f i) c;have m:IntKind.i64.wrap ((i:Int)+1)=((i+1:Nat):Int):=by grind [aH]
  refine ax (k:=aP rfl (aj (ao (aZ (k:=?_)))));by_cases b:dN f i<f i i
  ·refine aF (aG j l) (k:=aC rfl (dz (aG j l) (k:=df m (k:=?_))));refine⟨⟨i+1,by omega⟩,by grind,ak trivial ?_⟩;simp[wk,dN,b]
  refine aF (aG j l) (k:=aq rfl (al (df m (k:=?_))));refine⟨⟨i+1,by omega⟩,by grind,ak trivial ?_⟩;simp[wk,dN,b]
 have e:i=n:=by omega
 subst e;refine ax (k:=aQ rfl (aZ (k:=aI @results67)))
theorem rE (n i:Nat):(af n (0:Int)).getD i 0=0:=by
 grind
theorem pJ (b:0<=x):CtP n x (af n 0):=⟨by simp,fun i _=>by grind,by
 simp_all[sL,au,b7]⟩
noncomputable def nh (n:Nat) (f:FF) (B b:Int):Bool×List Int:=CU n f B b (n-1) [] (af n 0)
theorem ur {f:FF} {B bud:Int} (c:1<=n) (b:0<=bud):(nh n f B bud).2.length=n/\((nh n f B bud).1=true->CtP n bud (nh n f B bud).2/\(nh n f B bud).2.getD (n-1) 0=((e9 f n B n []).length:Int)):=by
 have:=pH (f:=f) (B:=B) (n-1) [] (af n 0) (by simp;omega) (pJ b);rw[rE,show n-1+1=n by omega,ahL]at this;exact this
theorem BQ (n:Nat):af n [AV.p (.raw (.int .i64 0))]=lc fI (af n 0):=by simp[lc,fI]
theorem ED (n:Nat) (f:FF) (B e:Int) (g:1<=n) (v:n<=4) (m:RedR f n) (r: ∀i j,i<n->j<n->ju (f i j)) (q:0<=B) (z:B<=262144) (o:0<=e) (l:e<=1000000):
  CallC prog 47 [bV (mat n n f),.raw (.int .i64 B),.raw (.int .i64 e)] ⟨[],if(nh n f B e).1=true then wq (nh n f B e).2 0 else wq [] 9⟩:=by
 have w:=qO n f B 4611686018427387904 e g v m q (by omega) o l;have x:=A0 n f g (by omega) (fun t C=>by have:=m.pd.2 t C;omega) r;have u:fq f n B (n-1+1) (aL n []):=by rw[show n-1+1=n by omega];exact gN m.pd q
 have A:CtP n e (af n 0):=pJ o;have p:=(uX n f B e v m r q z o l (n-1) [] (af n 0) (by simp;omega) uw.nil u A).nilA (k:=2) rfl (by decide);have E:=(ur (f:=f) (B:=B) g o).1
 change im _ _ _ _ _ _ _ (Il (nh n f B e).2) (.raw (.bool (nh n f B e).1))at p
 simp only[ag4,ag5]at p;generalize(nh n f B e).1=b at*
 generalize(nh n f B e).2=c at*
 have s:=aS n n f;generalize mat n n f=M at*
 unfold rM at*
 generalize oY n f n=S at*
 generalize dL n f=D at*
 clear u m r;refine aB func47 rfl ntmps47 (aE (k:=aj (bu [⟨3,_,_,_,w⟩] (k:=ax (k:=aq rfl (al (aF s (k:=?_))))))));rw[BQ];refine aj (EH 5 p 19 0 [⟨1,_,_,_,x⟩] [] (by simp[wk]) g (jD rfl) (cd _ _) (by decide) fun K h=>?_);simp only[kd,bV,aa];apply h;clear h K;refine⟨⟨rfl,rfl⟩,?_⟩;intro K h;simp only[kd,bV,aa,Im,cwD];apply h;clear h K;show bv _ _ _ _;cases b with
 |true=>
  refine aq rfl (al (aZ (k:=?_)));refine aM ⟨.inr rfl,dI 19 (bj rfl) ?_ rfl⟩;have y:List.take n c=c:=aeS (by omega);simp(disch:=omega) only[kd,results47,y,wq]
 |false=>
  refine aC rfl (aZ (k:=?_));refine aM ⟨.inr rfl,lW 6 rfl rfl ?_ rfl⟩;simp(disch:=omega) only[kd,results47,wq]
theorem f4 (a:Int×List Int):(Oq a).length=2:=rfl
theorem mT (l:List (Int×List Int)) (k:Int) (x:List Int):lc Oq l++[[AV.p (.raw (.int .i64 k)),.p (.sl (ls fI x))]]=lc Oq (l++[(k,x)]):=by simp[lc,Oq]
theorem tk (k:Int) (x:List Int) (b:Int) (y:List Int):CallC prog 143 [tIt k x,tIt b y] ⟨[],.raw (.bool (decide (qA (k,x) (b,y))))⟩:=by
 have e:=fA x y;by_cases f:k<b
 ·rw[decide_eq_true (show qA (k,x) (b,y)from .inl f)];refine aB func143 rfl ntmps143 (aE (k:=ax (k:=aI @results143)))
 by_cases g:k=b
 ·rw[show decide (qA (k,x) (b,y))=decide (dZ x y<0) by
   grind [qA]]
  generalize dZ x y=c at*
  refine aB func143 rfl ntmps143 (aE (k:=bD [⟨16,_,_,_,e⟩] (k:=aI @results143)))
 rw[decide_eq_false (show ¬qA (k,x) (b,y) by grind [qA])];refine aB func143 rfl ntmps143 (aE (k:=ax (k:=aI @results143)))
theorem S8 (l:List (Int×List Int)) (k:Int) (x:List Int) (D:l.length<=1000000):CallC prog 93 [C7 l,tIt k x] ⟨[],C7 (jS (k,x) l)⟩:=by
 have v:=L6 (k,x) l;have m:=L7 (k,x) l;have j:=L5 (k,x) l;have b:=vN (k,x) l;obtain⟨p,z⟩: ∃p,p=L4 (k,x) l:=⟨_,rfl⟩;rw[<- z]at v m j b;clear z;refine aB func93 rfl ntmps93 (aE (k:=aZ (k:=?_)));refine aj (ay (G:=fp p) (fun g=>⟨(C7 l::jk::jk::.one (.ptr 3 0 0 0)::jk::rN g.i::j16 (j16 (j4 (j4 (jk::jk::[]))))),Hm [(3,[⟨75,2,[[.p (.raw (.int .i64 k)),.p (.sl (ls fI x))]]⟩])]⟩) (fun g=>p-g.i) ⟨0,by omega⟩ ?_ ?_)
 ·refine ak ⟨rfl,trivial⟩ ?_;simp[wk]
 rintro⟨i,C⟩;simp only;by_cases A:i<p
 ·obtain⟨a,e⟩:=getElem?_of_lt (show i<l.length by omega);have n:=m i a e A;obtain⟨o,q⟩:=a;have f:=tk o q k x;rw[decide_eq_true n]at f;refine aj (dF [⟨10,_,_,_,f⟩] e (k:=aC rfl (al (ao (bK (k:=?_))))));refine⟨⟨i+1,by omega⟩,by grind,ak ⟨rfl,trivial⟩ ?_⟩;simp[wk]
 have u:i=p:=by omega
 subst u;by_cases y:i<l.length
 ·obtain⟨a,e⟩:=getElem?_of_lt y;have w:=j a e;obtain⟨o,q⟩:=a;have f:=tk o q k x;rw[decide_eq_false w]at f;have r:=tk k x o q;rw[e]at b;simp only at b;refine aj (dF [⟨10,_,_,_,f⟩] e (k:=aq rfl (aT ?_)));show bv _ _ _ _;by_cases c:qA (k,x) (o,q)
  ·rw[decide_eq_true c]at r;rw[if_pos c]at b;rw[b];refine aj (dF [⟨10,_,_,_,r⟩] e (k:=aq rfl (al ?_)));have h:(l.take i).length=i:=by grind
   have s:(l.take i++[(k,x)]).length=i+1:=by grind
   have t:(l.drop i).length=l.length-i:=aia;refine aF (aG @afl (aG (fj f4) (aG h (jg f4)))) (k:=aF (aG h @mT) (k:=aF (aG (fj f4) (aG @afS (aG s (aG t (jg f4))))) (k:=?_)));refine aM ⟨.inr rfl,dI 38 (bj rfl) ?_ rfl⟩;simp(disch:=omega) only[kd,results93,ae8,ae,C7];rw[aeS (by grind)]
  rw[decide_eq_false c]at r;rw[if_neg c]at b;rw[b];refine aj (dF [⟨10,_,_,_,r⟩] e (k:=aC rfl (aZ (k:=aI @results93))))
 have B:l.length=i:=by omega
 rw[afI (by omega)]at b;simp only at b;rw[b];refine aj (Aj (k:=aq rfl (aT (aj (Aj (k:=aq rfl (al ?_)))))));have h:(l.take i).length=i:=by grind
 have s:(l.take i++[(k,x)]).length=i+1:=by grind
 have t:(l.drop i).length=0:=by grind
 refine aF (aG @afl (aG (fj f4) (aG h (jg f4)))) (k:=aF (aG h @mT) (k:=aF (aG (fj f4) (aG @afS (aG s (aG t (jg f4))))) (k:=?_)));refine aM ⟨.inr rfl,dI 38 (bj rfl) ?_ rfl⟩;simp(disch:=omega) only[kd,results93,ae8,ae,C7];grind
theorem wQ (l:List (Int×List Int)) (o:l.length<=1000000):CallC prog 69 [C7 l] ⟨[],bV (l.map Prod.snd)⟩:=by
 have j:(l.map Prod.snd).length=l.length:=ae3 _;refine aB func69 rfl ntmps69 (aE (k:=aZ (k:=aj (aZ (k:=?_)))));refine ay (G:=fp l.length) (fun g=>⟨(jk::jk::jk::.one (.sl 16 0 0 g.i)::jk::jk::C7 l::rN l.length::rN g.i::j4 (j4 (jk::jk::[]))),Hm [(16,[⟨35,1,lc (fR fI) ((l.map Prod.snd).take g.i)⟩])]⟩) (fun g=>l.length-g.i) ⟨0,by omega⟩ ?_ ?_
 ·refine(ca (k:=3) (d:=16) 35 1 (by omega) rfl rfl).trans (ak ⟨rfl,trivial⟩ ?_);simp[wk]
 rintro⟨i,n⟩;simp only;by_cases h:i<l.length
 ·obtain⟨a,f⟩:=getElem?_of_lt h;obtain⟨p,m⟩:=a;have c:((l.map Prod.snd).take i).length=i:=by grind
  have e:(l.map Prod.snd).take i++[m]=(l.map Prod.snd).take (i+1):=by
   grind [List.take_add_one]
  generalize l.map Prod.snd=V at*
  refine ax (k:=aP rfl (aj (ao (aF f (k:=dz (aG c (aG @i7 e)) (k:=bK (k:=?_)))))));refine⟨⟨i+1,by omega⟩,by grind,ak ⟨rfl,trivial⟩ ?_⟩;simp[wk]
 have b:i=l.length:=by omega
 subst b;refine ax (k:=aQ rfl (aZ (k:=?_)));refine aM ⟨.inr rfl,dI 16 (bj rfl) ?_ rfl⟩;simp(disch:=omega) only[kd,results69,aeS,bV]
def K0 (x:List Int):TV:=match w9 x with|none=>Ig [] false|some y=>Ig y true
theorem tO (h:CQ e=true) (b:bT e≠0):K0 e=Ig (e.map fun a=>bT e*a) true:=by
 grind [K0,pD]
theorem qS (h:CQ e=true) (b:bT e=0):K0 e=Ig [] false:=by
 grind [K0,pD]
theorem uV (h:CQ e=false):K0 e=Ig [] false:=by
 grind [K0,w9]
theorem BL (x:List Int) (B:x.length<=17592186043904):CallC prog 92 [d7 x] ⟨[],K0 x⟩:=by
 have j:=II x;cases h:CQ x with
 |false=>
  rw[h]at j;rw[uV h];refine aB func92 rfl ntmps92 (aE (k:=aj (bu [⟨1,_,_,_,j⟩] (k:=aC rfl (aZ (k:=?_))))));refine aM ⟨.inr rfl,lW 2 rfl rfl ?_ rfl⟩;simp(disch:=omega) only[kd,results92,Ig]
 |true=>
  rw[h]at j;have u: ∀i c,x[i]?=some c-> -1099511627776<=c/\c<=1099511627776:=fun i c e=>zQ h e
  refine aB func92 rfl ntmps92 (aE (k:=aj (bu [⟨1,_,_,_,j⟩] (k:=aq rfl (al (aZ (k:=aj (aZ (k:=?_)))))))));refine ay (G:=fp x.length) (fun g=>⟨(d7 x::jk::jk::jk::.raw (.int .i64 (bT (x.take g.i)))::j4 (j4 (d7 x::rN x.length::rN g.i::j16 (j4 (j4 (j4 ([]))))))),Hm []⟩) (fun g=>x.length-g.i) ⟨0,by omega⟩ ?_ ?_
  ·refine ak trivial ?_;simp[wk,bT]
  rintro⟨i,y⟩;simp only;by_cases l:i<x.length
  ·obtain⟨c,e⟩:=getElem?_of_lt l;have b:=Ed (x.take i) c;rw[<- CD e]at b;generalize bT (x.take i)=s at*
   refine ax (k:=aP rfl (aj (ao (aF e (k:=?_)))));by_cases r:s=0
   ·by_cases t:c=0
    ·rw[if_neg (by omega)]at b;refine ax (k:=aq rfl (al (bK (k:=?_))));refine⟨⟨i+1,by omega⟩,by grind,ak trivial ?_⟩;simp[wk,b]
    rw[if_pos ⟨r,t⟩]at b;by_cases n:c<0
    ·rw[if_pos n]at b;refine ax (k:=aC rfl (aZ (k:=ax (k:=aC rfl (aAl (k:=bK (k:=?_)))))));refine⟨⟨i+1,by omega⟩,by grind,ak trivial ?_⟩;simp[wk,b]
    rw[if_neg n]at b;refine ax (k:=aC rfl (aZ (k:=ax (k:=aq rfl (al (bK (k:=?_)))))));refine⟨⟨i+1,by omega⟩,by grind,ak trivial ?_⟩;simp[wk,b]
   rw[if_neg (by omega)]at b;refine ax (k:=aq rfl (al (bK (k:=?_))));refine⟨⟨i+1,by omega⟩,by grind,ak trivial ?_⟩;simp[wk,b]
  have f:i=x.length:=by omega
  subst f;rw[afS];have w:=dx x;refine ax (k:=aQ rfl ?_);show bv _ _ _ _;by_cases m:bT x=0
  ·rw[qS h m,m];refine aj (ax (k:=aC rfl (aZ (k:=?_))));refine aM ⟨.inr rfl,lW 2 rfl rfl ?_ rfl⟩;simp(disch:=omega) only[kd,results92,Ig]
  rw[tO h m];have z:(x.map fun a=>bT x*a).length=x.length:=ae3 _;generalize bT x=s at*
  refine aj (ax (k:=aq rfl (al (aZ (k:=aj (aZ (k:=?_)))))));refine ay (G:=fp x.length) (fun g=>⟨(j4 (.raw (.int .i64 s)::jk::jk::.one (.sl 41 0 0 g.i)::j16 (j4 (jk::jk::d7 x::rN x.length::rN g.i::j4 (j4 (jk::jk::jk::[])))))),Hm [(41,[⟨2,1,lc fI ((x.map fun a=>s*a).take g.i)⟩])]⟩) (fun g=>x.length-g.i) ⟨0,by omega⟩ ?_ ?_
  ·refine(ca (k:=7) (d:=41) 2 1 (by omega) rfl rfl).trans (ak ⟨rfl,trivial⟩ ?_);simp[wk]
  rintro⟨i,y⟩;simp only;by_cases l:i<x.length
  ·obtain⟨c,e⟩:=getElem?_of_lt l;have v:=u i c e;have p:((x.map fun a=>s*a).take i).length=i:=by grind
   have q:(x.map fun a=>s*a).take i++[s*c]=(x.map fun a=>s*a).take (i+1):=by
    grind [List.take_add_one]
   have o: -9223372036854775808<=s*c/\s*c<=9223372036854775807:=by
    grind
   have A:IntKind.i64.wrap (s*c)=s*c:=aH o.1 o.2;generalize(x.map fun a=>s*a)=V at*
   refine ax (k:=aP rfl (aj (ao (aF e (k:=dz (aG A (aG p (aG @j6 q))) (k:=bK (k:=?_)))))));refine⟨⟨i+1,by omega⟩,by grind,ak ⟨rfl,trivial⟩ ?_⟩;simp[wk]
  have f:i=x.length:=by omega
  subst f;refine ax (k:=aQ rfl (aZ (k:=?_)));refine aM ⟨.inr rfl,dI 41 (bj rfl) ?_ rfl⟩;simp(disch:=omega) only[kd,results92,aeS,Ig]
abbrev vo (l:List (Int×List Int)):List OObj:=[⟨75,2,lc Oq l⟩]
theorem qZ (l:List (Int×List Int)): ∀o∈vo l,selfO 0 o:=fun o b e f x c=>by
 simp only[aeK]at b;subst b;obtain⟨z,_,rfl⟩:=aeL.1 f;simp only[Oq,aeX,afh,afn,afx,or_false]at c;rcases c with rfl|rfl<;>trivial
theorem Fm (d:Nat) (l:List (Int×List Int)):(vo l).map (renO d)=vo l:=by simp[vo,renO,jh]
def ml (n:Nat) (f:FF) (z:List Int):Int×List Int:=(I9 n f z,z)
structure LvG (lo hi:Int) (g:Int->List (List Int)) (it:List Int->Int×List Int) (T:List (Int×List Int)) where
 x:Int
 acc:List (Int×List Int)
 h1:lo<=x
 e:acc++((rng x hi).flatMap g).map it=T
theorem lH (n:Nat) (f:FF) (B:Int) (k:Nat) (y:List Int) (out:List (Int×List Int)) (X:n<=4) (e:RedR f n) (E: ∀i j,i<n->j<n->ju (f i j)) (Q:0<=B) (U:B<=262144) (u:y.length+(k+1)=n) (A:uw y) (r:fq f n B (k+1) (aL n y))
  (g:Int->List (List Int)) (W:(out++((rng (cu f n B k (aL n y)) (dy f n B k (aL n y))).flatMap g).map (ml n f)).length<=1000000)
  (s:(k=0/\ ∀x,g x=[x::y])\/(k≠0/\ ∀x acc,cu f n B k (aL n y)<=x->x<=dy f n B k (aL n y)->(acc++(g x).map (ml n f)).length<=1000000->
   qm prog 49 [rM n f,.raw (.int .i64 B),d7 (x::y),.one (.sl 0 0 0 acc.length)] (vo acc) (vo (acc++(g x).map (ml n f))) (.one (.sl 0 0 0 (acc++(g x).map (ml n f)).length)))):
  qm prog 49 [rM n f,.raw (.int .i64 B),d7 y,.one (.sl 0 0 0 out.length)] (vo out) (vo (out++((rng (cu f n B k (aL n y)) (dy f n B k (aL n y))).flatMap g).map (ml n f)))
   (.one (.sl 0 0 0 (out++((rng (cu f n B k (aL n y)) (dy f n B k (aL n y))).flatMap g).map (ml n f)).length)):=by
 have O:=j1 n f B k y X e E Q U u A r;have Z:=fun x=>rm x y (by omega)
 obtain⟨b1,b2⟩:=jv e X Q U u A r;have tb:=g9 (y.length+1) (by omega);have w: ∀x i,k<i->i<n->aL n (x::y) i=aL n y i:=fun x i m _=>ia u m
 have cP: ∀x,cu f n B k (aL n y)<=x->x<=dy f n B k (aL n y)->k=0->CallC prog 101 [rM n f,d7 (x::y)] ⟨[],tR (ml n f (x::y)).1 1⟩/\0<=(ml n f (x::y)).1/\(ml n f (x::y)).1<=262144:=fun x m R c=>by
  subst c;have V:(x::y).length=n:=by omega
  have L:uw (x::y):=A.cons (by omega);have I:fq f n B 0 (aL n (x::y)):=by
   rw[ig e.pd (by omega) ((fq.tail e.pd (by omega) fun i m R=>w x i m R).2 r),iV u,lf e.pd (by omega) (w x),k9 e.pd (by omega) (w x)];omega
  have D:=lk.1 I;rw[show aL n (x::y)=fun i=>(x::y).getD i 0 from funext (nj V)]at D;have ac:=(e.pd.pos fun i=>(x::y).getD i 0).1;have hb:(ml n f (x::y)).1=BF n f (fun i=>(x::y).getD i 0) fun i=>(x::y).getD i 0:=rfl
  refine⟨qW n f (x::y) (by omega) (by omega) V E fun z hz=>?_,?_,?_⟩
  ·have h3:=L.bd z hz;have h4:=g9 (x::y).length (by omega);constructor<;>omega
  ·omega
  omega
 have H: ∀z,ml n f z=((ml n f z).1,z):=fun _=>rfl
 unfold Y9 at O;generalize hT:(out++((rng (cu f n B k (aL n y)) (dy f n B k (aL n y))).flatMap g).map (ml n f))=T at*
 generalize cu f n B k (aL n y)=Y at*
 generalize dy f n B k (aL n y)=t at*
 generalize ml n f=h at*
 unfold rM at*
 generalize oY n f n=S at*
 generalize dL n f=P at*
 clear r e E A w;refine H5 func49 rfl (by kernel_rfl) (by simp[selfTV,bJ]) (by simp[selfTV,bJ]) (qZ _) (qZ _) ?_;rw[ntmps49];refine bv.weak (ak (tm:=(.agg [.p (.raw (.int .i64 (n:Int))),.p (.sl (ls fB S)),.p (.sl (ls fZ P))]::.raw (.int .i64 B)::d7 y::.one (.sl 0 0 0 out.length)::j16 (j16 (j16 (j4 ([])))))) (l:=[(0,vo out)]) ⟨rfl,trivial⟩ (by simp[wk,af])) ?_;refine ax (k:=bu [⟨3,_,_,_,O⟩] (k:=aj (aZ (k:=?_))));refine ay (G:=LvG Y t g h T) (fun g=>⟨(jk::.raw (.int .i64 B)::d7 y::.one (.sl 0 0 0 g.acc.length)::.one (.ptr 4 0 0 0)::j4 (jk::.raw (.int .i64 t)::.raw (.int .i64 g.x)::j16 (j16 (j4 (j4 (j4 ([]))))))),Hm [(0,vo g.acc),(4,[⟨87,3,[[.p (.raw (.int .i64 (n:Int))),.p (.sl (ls fB S)),.p (.sl (ls fZ P))]]⟩])]⟩) (fun g=>(t+1-g.x).toNat) ⟨Y,out,by omega,hT⟩ ?_ ?_
 ·refine ak ⟨rfl,rfl,trivial⟩ ?_;simp[wk]
 rintro⟨x,acc,m,o⟩;simp only;by_cases M:x<=t
 ·rw[vW M,agQ,afv,<- ae8]at o;have ex:IntKind.i64.wrap (x+1)=x+1:=aH (by omega) (by omega);have b:(acc++(g x).map h).length<=1000000:=by
   grind
  refine aj (ax (k:=aC rfl (al (aj (ao (bu [⟨2,_,_,_,Z x⟩] (k:=?_)))))));rcases s with⟨c,s⟩|⟨c,s⟩
  ·obtain⟨C,n0,n1⟩:=cP x m M c;have N:=nt (h (x::y)).1 ((show ju (h (x::y)).1 by constructor<;>omega).sz (by omega));rw[pP (by constructor<;>omega)]at N;have ab:=H (x::y);have F:(g x).map h=[((h (x::y)).1,x::y)]:=by grind
   rw[F]at b o;rw[afg]at b;have b:acc.length+1<=1000000:=b;generalize(h (x::y)).1=v at*
   refine aj (ax (k:=aq rfl (al (bD [⟨2,_,_,_,C⟩,⟨4,_,_,_,N⟩] (k:=dz @mT (k:=df ex (k:=?_)))))));refine⟨⟨x+1,acc++[(v,x::y)],by omega,o⟩,by simp only;omega,ak ⟨rfl,rfl,trivial⟩ ?_⟩;simp[wk]
  have J:=s x acc m M b;refine aj (ax (k:=aC rfl (Ad 4 J 0 [] [] (by decide) (by decide) fun K q=>?_)));simp only[kd,aa,reduceCtorEq];apply q;clear q K;refine⟨⟨rfl,?_⟩,?_⟩
  ·rw[Fm];rfl
  intro K q;simp only[kd,aa,TZ,cwD,kF,Nat.reduceBEq];apply q;clear q K;refine aT (df ex (k:=?_));refine⟨⟨x+1,acc++(g x).map h,by omega,o⟩,by simp only;omega,ak ⟨rfl,rfl,trivial⟩ ?_⟩;simp[wk]
 rw[qa (by omega),agJ,afh,afz]at o;subst o;refine aj (ax (k:=aq rfl (aT (aZ (k:=?_)))));refine aM ⟨.inr rfl,_,ak (tm:=(j4 (j4 (.one (.sl 0 0 0 acc.length)::j16 (j16 (j4 (j4 (j4 (jk::jk::jk::[]))))))))) (l:=[(0,vo acc)]) ⟨rfl,trivial⟩ (by simp[wk]),eZ _,?_⟩;simp(disch:=omega) only[kd,results49]
theorem rj (n:Nat) (f:FF) (B:Int) (o:n<=4) (b:RedR f n) (q: ∀i j,i<n->j<n->ju (f i j)) (h:0<=B) (l:B<=262144): ∀(k:Nat) (y:List Int) (out:List (Int×List Int)),y.length+(k+1)=n->uw y->fq f n B (k+1) (aL n y)->(out++(e9 f n B (k+1) y).map (ml n f)).length<=1000000->
  qm prog 49 [rM n f,.raw (.int .i64 B),d7 y,.one (.sl 0 0 0 out.length)] (vo out) (vo (out++(e9 f n B (k+1) y).map (ml n f))) (.one (.sl 0 0 0 (out++(e9 f n B (k+1) y).map (ml n f)).length))
 |0,y,out,c,g,e,m=>lH n f B 0 y out o b q h l c g e (fun x=>[x::y]) m (.inl ⟨rfl,fun _=>rfl⟩)
 |k+1,y,out,c,g,e,m=>by
  refine lH n f B (k+1) y out o b q h l c g e (fun x=>e9 f n B (k+1) (x::y)) m (.inr ⟨by omega,fun x acc m w t=>?_⟩);obtain⟨u,v⟩:=jv b o h l c g e;have r: ∀i,k+1<i->i<n->aL n (x::y) i=aL n y i:=fun i p _=>ia c p
  refine rj n f B o b q h l k (x::y) acc (by grind) (g.cons (by omega)) ?_ t;rw[ig b.pd (by omega) ((fq.tail b.pd (by omega) fun i p s=>r i p s).2 e),iV c,lf b.pd (by omega) r,k9 b.pd (by omega) r];omega
section
theorem x8 (h:(Lit.int .u16 x).wf=true):0<=x/\x<=65535:=by
 have:=Go.bounds_u16 h;omega
section
variable {n:Nat} {f:FF} {B bud:Int}
def S3 (n:Nat) (bud:Int) (c:List Int) (T:Nat) (r:Bool×List Int):Prop:=
 (r.1=true↔sL n c+(T:Int)<=bud)/\(r.1=true->CtP n bud r.2/\sL n r.2=sL n c+(T:Int))
theorem Ik {g:Int->List Int->Bool×List Int} {m:Int->Nat}: ∀(l:List Int) (c:List Int),(∀x∈l,∀c,CtP n bud c->S3 n bud c (m x) (g x c))->CtP n bud c->S3 n bud c (l.map m).sum (ctL g l c)
 |[],c,_,b=>⟨by have:=b.2.2;simp[ctL];exact this,fun _=>⟨b,by simp[ctL]⟩⟩
 |x::l,c,p,b=>by
  obtain⟨q,r⟩:=p x (by simp) c b;rw[ctL,aeX,aiF];by_cases e:(g x c).1=true
  ·rw[if_pos e];obtain⟨s,t⟩:=r e;obtain⟨o,j⟩:=Ik l (g x c).2 (fun z u=>p z (by simp[u])) s;rw[t]at o j;exact⟨o.trans ⟨fun h=>by omega,fun h=>by omega⟩,fun h=>⟨(j h).1,by rw[(j h).2];omega⟩⟩
  rw[if_neg e];have: ¬(sL n c+(m x:Int)<=bud):=fun h=>e (q.2 h)
  exact⟨⟨fun h=>(by cases h),fun h=>by omega⟩,fun h=>by cases h⟩
theorem Ij {k:Nat} {c:List Int} {K:List Int->Bool×List Int} (v:e.length+(k+1)=n) (b:CtP n bud c) {M:Nat} (r:dy f n B k (aL n e)<cu f n B k (aL n e)->M=0) (q: ∀g,CtP n bud g->S3 n bud g M (K g)):
  S3 n bud c ((rng (cu f n B k (aL n e)) (dy f n B k (aL n e))).length+M) (AF n f B bud k e c K):=by
 have u:0<=sL n c:=jG n fun a s=>b.2.1 a s
 rw[p9];unfold AF;by_cases j:dy f n B k (aL n e)<cu f n B k (aL n e)
 ·rw[if_pos j,r j];have:=b.2.2;exact⟨⟨fun _=>by omega,fun _=>rfl⟩,fun _=>⟨b,by show sL n c=_;omega⟩⟩
 rw[if_neg j];by_cases m:bud<=dy f n B k (aL n e)-cu f n B k (aL n e)
 ·rw[if_pos m];exact⟨⟨fun h=>(by cases h),fun h=>by omega⟩,fun h=>by cases h⟩
 rw[if_neg m];have t:=uZ (d:=dy f n B k (aL n e)-cu f n B k (aL n e)) b.1 (show e.length<n by omega);by_cases o:bud<sL n (AC e.length (dy f n B k (aL n e)-cu f n B k (aL n e)) c)
 ·rw[if_pos o];exact⟨⟨fun h=>(by cases h),fun h=>by omega⟩,fun h=>by cases h⟩
 rw[if_neg o];obtain⟨p,l⟩:=q (AC e.length (dy f n B k (aL n e)-cu f n B k (aL n e)) c) ⟨by rw[zk];exact b.1,AE b.1 (by omega) (by omega) b.2.1,by omega⟩;rw[t]at p l;exact⟨p.trans ⟨fun h=>by omega,fun h=>by omega⟩,fun h=>⟨(l h).1,by rw[(l h).2];omega⟩⟩
theorem Ii: ∀(k:Nat) (y c:List Int),y.length+(k+1)=n->CtP n bud c->S3 n bud c (toL f n B k y) (CU n f B bud k y c)
 |0,y,c,j,e=>Ij (M:=0) (K:=fun b=>(true,b)) j e (fun _=>rfl) fun b h=>⟨⟨fun _=>by have:=h.2.2;omega,fun _=>rfl⟩,fun _=>⟨h,by show sL n b=_;omega⟩⟩
 |k+1,y,c,j,e=>Ij j e (fun h=>by rw[qa h];rfl) fun b h=>Ik (g:=fun x=>CU n f B bud k (x::y)) (m:=fun x=>toL f n B k (x::y)) _ b (fun x _ c e=>Ii k (x::y) c (by rw[ae6];omega) e) h
theorem zy (c:1<=n) (b:0<=bud):(nh n f B bud).1=true↔(toL f n B (n-1) []:Int)<=bud:=by
 have h:=(Ii (f:=f) (B:=B) (n-1) [] (af n 0) (by simp;omega) (pJ b)).1;have:sL n (af n 0)=0:=by
  unfold sL;rw[au n fun i _=>rE n i,b7]
 rw[this,ahL]at h;exact h
end
end
def qw (x:List Int):Bool:=CQ x&&decide (bT x=1)
def pQ (l:List (Int×List Int)):List (Int×List Int):=l.foldl (fun acc x=>if qw x.2=true then jS x acc else acc) []
theorem A8 (l:List (Int×List Int)) (x:Int×List Int):pQ (l++[x])=if qw x.2=true then jS x (pQ l)else pQ l:=by
 grind [pQ]
theorem pR (l:List (Int×List Int)):(pQ l).length<=l.length:=by
 have key: ∀(l acc:List (Int×List Int)),(l.foldl (fun acc x=>if qw x.2=true then jS x acc else acc) acc).length<=l.length+acc.length:=by
  intro l
  induction l with
  |nil=>simp
  |cons x l b=>
   grind [BG]
 grind [pQ]
noncomputable def xq (n:Nat) (f:FF) (B:Int):List (Int×List Int):=pQ ((e9 f n B n []).map (ml n f))
theorem vp {x:Int×List Int}:x∈pQ j↔x∈j/\qw x.2=true:=by
 have key: ∀(j acc:List (Int×List Int)),x∈j.foldl (fun acc x=>if qw x.2=true then jS x acc else acc) acc↔(x∈j/\qw x.2=true)\/x∈acc:=by
  intro j
  induction j with
  |nil=>simp
  |cons y j b=>
   grind [rC]
 grind [pQ]
theorem Fo (l:List (Int×List Int)):yY (pQ l):=by
 have key: ∀(l acc:List (Int×List Int)),yY acc->yY (l.foldl (fun acc x=>if qw x.2=true then jS x acc else acc) acc):=by
  intro l
  induction l with
  |nil=>simp
  |cons y l b=>
   grind [vM]
 exact key l [] (by simp[yY])
theorem uF (n:Nat) (f:FF) (B:Int) (E:1<=n) (U:n<=4) (m:RedR f n) (C: ∀i j,i<n->j<n->ju (f i j)) (r:0<=B) (O:B<=262144) (Q:(e9 f n B n []).length<=900000):
  CallC prog 43 [bV (mat n n f),.raw (.int .i64 B)] ⟨[],C7 (xq n f B)⟩:=by
 have N:=A0 n f E (by omega) (fun t W=>by have:=m.pd.2 t W;omega) C;have I:fq f n B (n-1+1) (aL n []):=by rw[show n-1+1=n by omega];exact gN m.pd r
 have e:=rj n f B U m C r O (n-1) [] [] (by simp;omega) uw.nil I (by grind);rw[show n-1+1=n by omega]at e;have H: ∀x∈(e9 f n B n []).map (ml n f),x.2.length<=4:=fun x u=>by
  obtain⟨z,X,rfl⟩:=aeL.1 u;have:=((vv m.pd r z).1 X).1;show z.length<=4;omega
 unfold xq;have R:((e9 f n B n []).map (ml n f)).length<=900000:=by grind
 generalize(e9 f n B n []).map (ml n f)=L at*
 have e:=(e.toC (k:=3) (by decide) rfl rfl).nilA (k:=2) rfl;simp only[ag4,ag5,afQ]at e;generalize mat n n f=M at*
 unfold rM at*
 generalize oY n f n=S at*
 generalize dL n f=Y at*
 clear I m C Q;refine aB func43 rfl ntmps43 (aE (k:=aZ (k:=aj (tz 3 e rfl [⟨1,_,_,_,N⟩] [] (by decide) fun K l=>?_))));simp only[kd,bV,aa];apply l;clear l K;refine⟨⟨rfl,⟨13,rfl,fun _=>rfl⟩⟩,?_⟩;intro K l;simp only[kd,bV,aa,K2,cwD,kq];apply l;clear l K;refine ay (G:=fp L.length) (fun g=>⟨(j4 (jk::C7 (pQ (L.take g.i))::j4 (jk::jk::jk::.one (.sl 13 0 0 L.length)::rN L.length::rN g.i::j16 (j4 (jk::jk::[]))))),Hm [(13,vo L)]⟩) (fun g=>L.length-g.i) ⟨0,by omega⟩ ?_ ?_
 ·refine(EE 5 rfl).trans (ak ⟨rfl,trivial⟩ ?_);simp[wk,pQ,ls]
 rintro⟨i,P⟩;simp only;by_cases T:i<L.length
 ·obtain⟨x,u⟩:=getElem?_of_lt T;have p:IntKind.i64.wrap ((i:Int)+1)=((i+1:Nat):Int):=by grind [aH]
  have b:pQ (L.take (i+1))=if qw x.2=true then jS x (pQ (L.take i))else pQ (L.take i):=by
   grind [List.take_add_one,A8]
  have w:=pR (L.take i);rw[age]at w;have F:=H x (adQ u);obtain⟨v,z⟩:=x;simp only at b F;have c:=BL z (by omega);have J:=S8 (pQ (L.take i)) v z (by omega);generalize pQ (L.take i)=A at*
  refine ax (k:=aP rfl (aj (ao (aF u (k:=?_)))));cases s:CQ z with
  |false=>
   rw[uV s]at c;rw[show qw z=false by grind [qw],if_neg (by decide)]at b;refine bD [⟨2,_,_,_,c⟩] (k:=ax (k:=aq rfl (al (df p (k:=?_)))));refine⟨⟨i+1,by omega⟩,by grind,ak ⟨rfl,trivial⟩ ?_⟩;simp[wk,b]
  |true=>
   rcases dx z with h|h|h
   ·rw[qS s h]at c;rw[show qw z=false by grind [qw],if_neg (by decide)]at b;refine bD [⟨2,_,_,_,c⟩] (k:=ax (k:=aq rfl (al (df p (k:=?_)))));refine⟨⟨i+1,by omega⟩,by grind,ak ⟨rfl,trivial⟩ ?_⟩;simp[wk,b]
   ·rw[tO s (by omega),h,show(z.map fun a=>(1:Int)*a)=z by simp]at c;rw[show qw z=true by grind [qw],if_pos rfl]at b;have o:=fA z z;rw[gH]at o;refine bD [⟨2,_,_,_,c⟩] (k:=bD [⟨5,_,_,_,o⟩] (k:=aC rfl (NP [⟨2,_,_,_,J⟩] (k:=df p (k:=?_)))));refine⟨⟨i+1,by omega⟩,by grind,ak ⟨rfl,trivial⟩ ?_⟩;simp[wk,b]
   rw[tO s (by omega),h]at c;rw[show qw z=false by grind [qw],if_neg (by decide)]at b;have V:dZ z (z.map fun a=>(-1:Int)*a)≠0:=fun r=>by
    grind [g7,pF]
   have o:=fA z (z.map fun a=>(-1:Int)*a);generalize dZ z (z.map fun a=>(-1:Int)*a)=q at*
   generalize(z.map fun a=>(-1:Int)*a)=y at*
   refine bD [⟨2,_,_,_,c⟩] (k:=bD [⟨5,_,_,_,o⟩] (k:=aq rfl (al (df p (k:=?_)))));refine⟨⟨i+1,by omega⟩,by grind,ak ⟨rfl,trivial⟩ ?_⟩;simp[wk,b]
 have D:i=L.length:=by omega
 subst D;rw[afS];refine ax (k:=aQ rfl (aZ (k:=aI @results43)))
abbrev Kn (l:List (List Int)) (s e:Int):TV:= .tup [(false,[.p (.sl (ls (fR fI) l))]),(false,[.p (.raw (.int .i64 s))]),(false,[.p (.raw (.int .i64 e))])]
theorem ny (n:Nat) (f:FF) (B b:Int) (e:1<=n) (p:n<=4) (t:RedR f n) (s: ∀i j,i<n->j<n->ju (f i j)) (q:0<=B) (r:B<=262144) (g:0<=b) (D:b<=900000) (u:(nh n f B b).1=true->(e9 f n B n []).length<=8193):
  CallC prog 31 [bV (mat n n f),.raw (.int .i64 B),.raw (.int .i64 b)] ⟨[],if(nh n f B b).1=true then Kn ((xq n f B).map Prod.snd) (sL n (nh n f B b).2) 0 else Kn [] 0 9⟩:=by
 have l:=ED n f B b e p t s q r g (by omega);obtain⟨G,H⟩:=ur (f:=f) (B:=B) (bud:=b) e g;have o:=aS n n f;by_cases m:(nh n f B b).1=true
 ·have u:=u m;obtain⟨⟨_,h,J⟩,E⟩:=H m;have A:=D9 h (show n-1<n by omega);have w:=uF n f B e p t s q r (by omega);have x:=Ml n (nh n f B b).2 p G h (by omega);have F:(xq n f B).length<=8193:=by
   have C:=pR ((e9 f n B n []).map (ml n f));rw[ae3]at C;show(pQ _).length<=8193;omega
  have y:=wQ (xq n f B) (by omega);rw[if_pos m]at l⊢;generalize xq n f B=L at*
  obtain⟨v,I⟩:=getElem?_of_lt (show n-1<(nh n f B b).2.length by omega);have ev:(nh n f B b).2.getD (n-1) 0=v:=by grind
  rw[ev]at A E;generalize(nh n f B b).2=c at*
  generalize mat n n f=M at*
  have z:IntKind.i64.wrap ((n:Int)-1)=((n-1:Nat):Int):=by grind [aH]
  refine aB func31 rfl ntmps31 (aE (k:=fJ [⟨3,_,_,_,l⟩] @wq.eq_1 (k:=aj (ax (k:=aq rfl (al (aj (aF (aG o (aG z I)) (k:=aq rfl (al (bu [⟨2,_,_,_,w⟩,⟨3,_,_,_,y⟩,⟨5,_,_,_,x⟩] (k:=aI (aG @results31 @Kn.eq_1)))))))))))))
 rw[if_neg m]at l⊢;generalize mat n n f=M at*
 refine aB func31 rfl ntmps31 (aE (k:=fJ [⟨3,_,_,_,l⟩] @wq.eq_1 (k:=aj (ax (k:=aC rfl (aZ (k:=?_)))))));refine aM ⟨.inr rfl,lW 6 rfl rfl ?_ rfl⟩;simp(disch:=omega) only[kd,results31,Kn]
section
section
variable {M:List (List Int)} {n:Nat} {f:FF} {B:Int}
theorem OE (h:Rf M n f) (g:0<=B) (m:B<=65536):xq n f B=dJ f n B:=ze (Fo _) (rR f n B) fun x=>by
 have e: ∀z,(ml n f z).1=gp n f z:=fun z=>(fL f z).symm
 unfold xq;rw[vp,cq h g m,aeL];constructor
 ·rintro⟨⟨z,p,rfl⟩,l⟩;obtain⟨a,b⟩:=(qU h.r g z).1 p;unfold qw at l;rw[afb,decide_eq_true_eq]at l;exact⟨a,e z,by rw[e];exact b,l.2⟩
 rintro⟨a,b,c,d⟩;refine⟨⟨x.2,(qU h.r g _).2 ⟨a,by omega⟩,Prod.ext (by rw[e];exact b.symm) rfl⟩,?_⟩;unfold qw;rw[afb,decide_eq_true_eq];refine⟨zR (aeJ _) fun j v _ o=>?_,d⟩;have:=T8 h.r h.n8 g m a (by omega) v (adQ o);omega
end
end
abbrev RK:Option (Nat×Nat)->TV
 |some (p,c)=> .tup [(false,[.p (.raw (.int .i64 (p:Int)))]),(false,[.p (.raw (.int .i64 (c:Int)))]),(false,[.p (.raw (.bool true))])]
 |none=> .tup [(false,[.p (.raw (.int .i64 0))]),(false,[.p (.raw (.int .i64 0))]),(false,[.p (.raw (.bool false))])]
theorem BJ (p c:Nat):RK (some (p,c))= .tup [(false,[.p (.raw (.int .i64 (p:Int)))]),(false,[.p (.raw (.int .i64 (c:Int)))]),(false,[.p (.raw (.bool true))])]:=rfl
theorem BI:RK none= .tup [(false,[.p (.raw (.int .i64 0))]),(false,[.p (.raw (.int .i64 0))]),(false,[.p (.raw (.bool false))])]:=rfl
structure PvI (n k:Nat) (f:FF) (R:Option (Nat×Nat)) where
 i:Nat
 hk:k<=i
 hi:i<=n
 e:pvQ n f k (n-i) i=R
theorem F1 (n k:Nat) (f:FF) (D:n<=16) (u:k<=n) (x: ∀i j,i<n->j<n->Sz (f i j) 268435456):
  CallC prog 174 [dq (mat n n f),.raw (.int .i64 (k:Int))] ⟨[],RK (pvQ n f k (n-k) k)⟩:=by
 obtain⟨R,r⟩: ∃R,R=pvQ n f k (n-k) k:=⟨_,rfl⟩;rw[<- r];have l:=aS n n f;refine aB func174 rfl ntmps174 (aE (k:=aj (aZ (k:=?_))));refine ay (G:=PvI n k f R) (fun g=>⟨(dq (mat n n f)::rN k::j4 (jk::rN g.i::j16 (j4 (j4 (j4 (jk::[])))))),Hm []⟩) (fun g=>n-g.i) ⟨k,aeJ _,u,r.symm⟩ ?_ ?_
 ·refine ak trivial ?_;simp[wk]
 rintro⟨i,A,y,b⟩;simp only;by_cases s:i<n
 ·have m:=bA n f s;have l1:=az n (f i);have v:IntKind.i64.wrap ((i:Int)+1)=((i+1:Nat):Int):=by grind [aH]
  rw[show n-i=n-(i+1)+1 by omega,pvQ]at b;refine aj (aF l (k:=aC rfl (al (aj (ao (aZ (k:=?_)))))));refine ay (G:=PvJ n k (f i) (pvC (f i) (n-k) k)) (fun g=>⟨(dq (mat n n f)::rN k::j4 (jk::rN i::rN g.j::j16 (j4 (j4 (j4 ([])))))),Hm []⟩) (fun g=>n-g.j) ⟨k,aeJ _,u,rfl⟩ ?_ ?_
  ·refine ak trivial ?_;simp[wk]
  rintro⟨j,B,z,e⟩;simp only;by_cases t:j<n
  ·have q:=aw (f i) t;have w:IntKind.i64.wrap ((j:Int)+1)=((j+1:Nat):Int):=by grind [aH]
   have c:=kh (f i j) ((x i j s t).mono (by omega));rw[show n-j=n-(j+1)+1 by omega,pvC]at e;by_cases o:f i j=0
   ·rw[if_pos o]at e;rw[o]at c q;refine aj (aF (aG m l1) (k:=aC rfl (al (aj (ao (ce [⟨7,_,_,_,c⟩] (aG @we (aG m q)) (k:=aq rfl (al (df w (k:=?_))))))))));refine⟨⟨j+1,by omega,by omega,e⟩,by grind,ak trivial ?_⟩;simp[wk]
   rw[if_neg o]at e;rw[<- e]at b;have b:some (i,j)=R:=b;subst b;have C:=yF o;refine aj (aF (aG m l1) (k:=aC rfl (al (aj (ao (ce [⟨7,_,_,_,c⟩] (aG m q) (k:=aC rfl (aZ (k:=aI @results174)))))))))
  have h:j=n:=by omega
  subst h;rw[afO,pvC]at e;rw[<- e]at b;have b:pvQ j f k (j-(i+1)) (i+1)=R:=b;refine aj (aF (aG m l1) (k:=aq rfl (aT (df v (k:=?_)))));refine⟨⟨i+1,by omega,by omega,b⟩,by grind,ak trivial ?_⟩;simp[wk]
 have p:i=n:=by omega
 subst p;rw[afO,pvQ]at b;subst b;refine aj (aF l (k:=aq rfl (aT (aZ (k:=aI @results174)))))
theorem BT {k:Nat} {last:Int} (h:pvQ n b k (n-k) k=none):rkQ n (n-k) k b last=k:=by
 cases c:n-k with
 |zero=>rfl
 |succ m=>rw[rkQ,h]
theorem BU {k c:Nat} {last:Int} (f:k<n) (h:pvQ n b k (n-k) k=some (m,c)):rkQ n (n-k) k b last=rkQ n (n-(k+1)) (k+1) (LW k last (exQ m c k b)) (exQ m c k b k k):=by
 have e:n-k=n-(k+1)+1:=by omega
 rw[e,rkQ,h]
theorem Gv (p k:Nat) (g:FF):swp p k g=fun i=>g (nn p k i):=by
 grind [swp,nn]
def sY (c k:Nat) (g:FF) (i:Nat):Nat->Nat->Int:=fun a b=>if a<i then g a (nn c k b)else g a b
theorem EV (c k:Nat) (g:FF) (i a b:Nat):upd (upd (sY c k g i) i c (g i k)) i k (g i c) a b=sY c k g (i+1) a b:=by
 unfold upd sY nn;grind
theorem EW (c k:Nat) (g:FF):sY c k g 0=g:=by
 rfl
theorem KW (c k:Nat) (g:FF) {a:Nat} (e:a<n):sY c k g n a m=g a (nn c k m):=by
 grind [sY]
theorem CC (d n k:Nat) (b:k<n):((kw d (af n n)).set k [.sl d (k+1) 0 n]).set k [.sl d (k+1) 0 n]=kw d (af n n):=by
 rw[aiY];apply aeW;grind [bO]
theorem rI (R:Option (Nat×Nat)):kg ⟨[],RK R⟩:=⟨by cases R<;>rfl,fun o b=>by simp at b⟩
theorem E0 {d:Nat} {R:Option (Nat×Nat)} {s:AS} (b:cwD p n=some d):K2 p n ⟨[],RK R⟩ s=s.put (some d) (RK R):=by
 unfold K2;rw[b];cases R<;>rfl
structure RkG (n:Nat) (f:FF) where
 k:Nat
 g:Nat->Nat->Int
 last:Int
 b:Nat
 hk:k<=n
 e:rkQ n (n-k) k g last=rkF n f
 hl:last≠0
 hb:b+1<=1025*2^k
 sg: ∀i j,i<n->j<n->Sz (g i j) b
 sl:Sz last b
theorem F7 (n:Nat) (f:FF) (t:1<=n) (X:n<=16) (hf: ∀i j,i<n->j<n->Sz (f i j) 1024):
  CallC prog 124 [dq (mat n n f)] ⟨[],.tup [(false,[.p (.raw (.int .i64 (rkF n f:Int)))]),(false,[.p (.raw (.bool true))])]⟩:=by
 have hC:=Ey n n f (by omega) t (by omega) (fun i j o s=>(hf i j o s).mono (by omega));have hS:=er 1 (by omega) (by omega);have cH:=ph (mat n n f);rw[jx (mo f t X t X)]at cH;refine aB func124 rfl ntmps124 (aE (k:=aj (bu [⟨1,_,_,_,cH⟩] (k:=aZ (k:=aq rfl (al (bu [⟨1,_,_,_,hC⟩] (k:=bD [⟨0,_,_,_,hS⟩] (k:=aZ (k:=?_))))))))));refine ay (G:=RkG n f) (fun g=>⟨(j4 (jk::jk::jk::.one (.sl 25 0 0 n)::.one (.ptr 8 0 0 0)::rN g.k::j16 (j16 (j16 (j16 (j16 (j16 (j16 (j16 (j4 (j4 (j4 ([]))))))))))))),Hm [(8,oh g.last),(25,gC 25 n n g.g)]⟩) (fun g=>n-g.k) ⟨0,f,1,1024,by omega,rfl,by omega,by omega,hf,ni (by omega)⟩ ?_ ?_
 ·refine ak ⟨?_,?_,trivial⟩ ?_
  ·rfl
  ·exact fD 0 25 n n f
  simp[wk]
 rintro⟨k,g,last,b,hk,F,hl,hb,E,ab⟩;simp only;have ac:=oS (k:=k) (by omega);have ad:b<=67174400:=by omega
 have cP:=F1 n k g X hk fun i j o s=>(E i j o s).mono (by omega)
 refine aj (ao ?_)
 first|refine pj 2 cP (rI _) [] [] (by simp[wk]) (by decide) fun K r=>?_|refine aj (pj 2 cP (rI _) [] [] (by simp[wk]) (by decide) fun K r=>?_)
 simp only[kd];apply r;clear r K;refine⟨⟨⟨_,rfl,.inr ⟨25,0,0,n,rfl,iq (d:=25) (n:=n) (c:=n) (f:=g) rfl,Ow (d:=25) (n:=n) (c:=n) (f:=g) rfl⟩,.inl ⟨rfl,rfl⟩,trivial⟩,⟨32,rfl,fun _=>rfl⟩⟩,by simp[wk],?_⟩;intro K r;rw[E0 (d:=32) rfl];cases T:pvQ n g k (n-k) k with
 |none=>
  rw[BT T]at F;rw[BI];simp only[kd,aa];apply r;clear r K;show bv _ _ _ _;refine aj (aZ (k:=aC rfl (aZ (k:=?_))));rw[F]
  (refine aM ⟨.inr rfl,bQ rfl ?_ rfl⟩;simp(disch:=omega) only[kd,results124])
 |some pc=>
  obtain⟨p,c⟩:=pc;obtain⟨h1,h2,h3,h4,h5⟩:=vQ _ _ _ _ T;have e:k<n:=by omega
  rw[BU e T]at F;rw[BJ];simp only[kd,aa];apply r;clear r K;show bv _ _ _ _;refine aj (aZ (k:=aq rfl (al ?_)));refine aj (mc (S:=⟨(j4 (jk::jk::jk::.one (.sl 25 0 0 n)::.one (.ptr 8 0 0 0)::rN k::jk::rN c::j16 (j16 (j16 (j16 (j16 (j16 (j16 (j16 (j4 (j4 (jk::jk::[])))))))))))),Hm [(8,oh last),(25,gC 25 n n (swp p k g))]⟩) ?_ ?_)
  ·have m:=bO (n:=n) (i:=p) 25 n (by omega);have g2:=bO (n:=n) (i:=k) 25 n e;by_cases C:p=k
   ·subst C;have Q:((kw 25 (af n n)).set p [.sl 25 (p+1) 0 n])[p]?=some [.sl 25 (p+1) 0 n]:=by
     grind
    refine jz (aG m (aG Q (CC 25 n p e))) (k:=?_);rw[wA];refine ak ⟨rfl,rfl,trivial⟩ ?_;simp[wk]
   have Q:((kw 25 (af n n)).set p [.sl 25 (k+1) 0 n])[k]?=some [.sl 25 (k+1) 0 n]:=by
    grind
   refine jz (aG g2 (aG m Q)) (k:=?_);refine(y7 25 (p+1) (k+1) (gC 25 n n (swp p k g)) (zq g (by omega) e (agv C))).trans (ak ⟨rfl,rfl,trivial⟩ ?_);simp[wk,WN,oc,aaf,iD,swP,SV,sw]
  have hG:exQ p c k g=fun a b=>swp p k g a (nn c k b):=by rw[Gv];rfl
  have A:exQ p c k g k k≠0:=by
   grind [exQ,nn]
  have l: ∀i j,i<n->j<n->Sz (exQ p c k g i j) b:=fun i j o s=>E _ _ (qk (by omega) e o) (qk (by omega) e s)
  have R: ∀a b,a<n->sY c k (swp p k g) n a b=exQ p c k g a b:=fun a b ha=>by grind [KW]
  generalize exQ p c k g=h at*
  generalize swp p k g=m at*
  clear hG;refine aj (aZ (k:=?_));refine ay (G:=fp n) (fun q=>⟨(j4 (jk::jk::jk::.one (.sl 25 0 0 n)::.one (.ptr 8 0 0 0)::rN k::jk::rN c::j16 (j16 (j4 (j4 (jk::jk::rN n::rN q.i::j16 (j16 (j16 (j16 (j16 (j4 (j4 (j4 (jk::jk::[])))))))))))))),Hm [(8,oh last),(25,gC 25 n n (sY c k m q.i))]⟩) (fun q=>n-q.i) ⟨0,by omega⟩ ?_ ?_
  ·rw[EW];refine ak ⟨rfl,rfl,trivial⟩ ?_;simp[wk]
  rintro⟨i,ae⟩;simp only;by_cases o:i<n
  ·have v:=bO (n:=n) (i:=i) 25 n o;have J:=dp n (sY c k m i) o;have w:=dp n (upd (sY c k m i) i c (m i k)) o;have O:=aw (upd (sY c k m i) i c (m i k) i) e;have e0:sY c k m i i=m i:=by grind [sY]
   have M:(aA n (sY c k m i i))[k]?=some (m i k):=by simp_all[aw]
   have N:(aA n (sY c k m i i))[c]?=some (m i c):=by simp_all[aw]
   have ei:IntKind.i64.wrap ((i:Int)+1)=((i+1:Nat):Int):=by grind [aH]
   refine ax (k:=aP rfl (aj (ao (aZ (k:=jz (aG v (aG J (aG M (aG N (aG @gS (aG w O)))))) (k:=df ei (k:=?_)))))));refine⟨⟨i+1,by omega⟩,by grind,ak ⟨rfl,?_,trivial⟩ ?_⟩
   ·show _::_=_::_;rw[bC fun a b _ _=>EV c k m i a b]
   simp[wk]
  have U:i=n:=by omega
  subst U;have B:gC 25 i i (sY c k m i)=gC 25 i i h:=by
   simp_all[bC]
  rw[B];clear B R;have P:IntKind.i64.wrap ((k:Int)+1)=((k+1:Nat):Int):=by grind [aH]
  refine ax (k:=aQ rfl (aj (d9 P (k:=?_))));refine ay (G:=NxG i k) (fun q=>⟨(j4 (jk::jk::jk::.one (.sl 25 0 0 i)::.one (.ptr 8 0 0 0)::rN k::j4 (.raw (.int .i64 (q.i:Int))::j16 (j16 (j16 (j16 (j16 (j16 (j16 (j16 (j4 (jk::jk::jk::[])))))))))))),Hm [(8,oh last),(25,gC 25 i i (dQ k last h q.i (k+1)))]⟩) (fun q=>i-q.i) ⟨k+1,by omega,by omega⟩ ?_ ?_
  ·rw[FQ];refine ak ⟨rfl,rfl,trivial⟩ ?_;simp[wk]
  rintro⟨u,W,ah⟩;simp only;by_cases H:u<i
  ·have v:=bO (n:=i) (i:=u) 25 i H;have eu:IntKind.i64.wrap ((u:Int)+1)=((u+1:Nat):Int):=by grind [aH]
   refine aj (ax (k:=aC rfl (al (aj (ao (d9 P (k:=?_)))))));refine ay (G:=NxG i k) (fun q=>⟨(j4 (jk::jk::jk::.one (.sl 25 0 0 i)::.one (.ptr 8 0 0 0)::rN k::j4 (.raw (.int .i64 (u:Int))::rN q.i::j16 (j16 (j16 (j16 (j16 (j16 (j16 (j16 (j4 (jk::jk::[])))))))))))),Hm [(8,oh last),(25,gC 25 i i (dQ k last h u q.i))]⟩) (fun q=>i-q.i) ⟨k+1,by omega,by omega⟩ ?_ ?_
   ·refine ak ⟨rfl,rfl,trivial⟩ ?_;simp[wk]
   rintro⟨j,V,ag⟩;simp only;have J:=dp i (dQ k last h u j) H;by_cases s:j<i
   ·have I:=bO (n:=i) (i:=k) 25 i e;have L:=dp i (dQ k last h u j) e;have w:(aA i (dQ k last h u j k))[k]?=some (h k k):=by grind [aw,gT]
    have M:(aA i (dQ k last h u j u))[j]?=some (h u j):=by grind [aw,gT]
    have N:(aA i (dQ k last h u j u))[k]?=some (h u k):=by grind [aw,gT]
    have O:(aA i (dQ k last h u j k))[j]?=some (h k j):=by grind [aw,gT]
    have ej:IntKind.i64.wrap ((j:Int)+1)=((j+1:Nat):Int):=by grind [aH]
    have z1:=l k k e e;have z2:=l u j H s;have z3:=l u k H e;have z4:=l k j e s;have c1:=gu (h k k) (h u j) (z1.mono (by omega)) (z2.mono (by omega));have c2:=gu (h u k) (h k j) (z3.mono (by omega)) (z4.mono (by omega));have c3:=ta (h k k*h u j) (h u k*h k j) ((z1.mul z2).mono (by omega)) ((z3.mul z4).mono (by omega));have c4:=s9 (h k k*h u j-h u k*h k j) last hl (((z1.mul z2).sub (z3.mul z4)).mono (by omega)) (ab.mono (by omega));refine aj (aF v (k:=aC rfl (al (aj (ao (fP [⟨19,_,_,_,c1⟩,⟨34,_,_,_,c2⟩,⟨35,_,_,_,c3⟩,⟨37,_,_,_,c4⟩] (aG v (aG I (aG L (aG w (aG J (aG M (aG N (aG O @gS)))))))) (k:=df ej (k:=?_))))))));refine⟨⟨j+1,by omega,by omega⟩,by grind,ak ⟨rfl,?_,trivial⟩ ?_⟩
    ·show _::_=_::_;rw[bC fun a b _ _=>FP last h W V a b]
    simp[wk]
   have z:j=i:=by omega
   subst z;refine aj (aF v (k:=aq rfl (aT (df eu (k:=?_)))));refine⟨⟨u+1,by omega,by omega⟩,by grind,ak ⟨rfl,?_,trivial⟩ ?_⟩
   ·show _::_=_::_;rw[bC fun a b _ hb=>LT last h u a b hb]
   simp[wk]
  have D:u=i:=by omega
  subst D;have I:=bO (n:=u) (i:=k) 25 u e;have L:=dp u (dQ k last h u (k+1)) e;have w:(aA u (dQ k last h u (k+1) k))[k]?=some (h k k):=by grind [aw,gT]
  refine aj (ax (k:=aq rfl (aT (dz (aG I (aG L w)) (k:=df P (k:=?_))))));refine⟨⟨k+1,LW k last h,h k k,2*b+1,by omega,F,A,by omega,fun x y Y Z=>?_,(l k k e e).mono (by omega)⟩,by simp only;omega,ak ⟨rfl,?_,trivial⟩ ?_⟩
  ·unfold LW;split
   ·exact((((l k k e e).mul (l x y Y Z)).sub ((l x k Y e).mul (l k y e Z))).ediv last).mono (by omega)
   exact(l x y Y Z).mono (by omega)
  ·show _::_=_::_;rw[bC fun a b ha _=>LS last h a b ha]
  simp[wk]
theorem wM (m:Nat) (X:FF) (i j:Nat):kp (m+1) X i j=kp m X i j+X m i*X m j:=rfl
theorem Kk {n:Nat} {X:FF} {m:Nat}: ∀a,a<=m->(∀b i,b<m->i<n->Sz (X b i) 2)-> ∀i j,i<n->j<n->Sz (kp a X i j) (4+a)
 |0,_,_,i,j,_,_=>mu _
 |a+1,g,c,i,j,e,f=>by
  rw[wM];exact Sz.add (k:=4+a) (Kk a (by omega) c i j e f) ((Sz.mul (c a i (by omega) e) (c a j (by omega) f)).mono (by omega))
def s7 (a:Nat) (X:FF) (i j:Nat):Nat->Nat->Int:=fun p q=>if p<i\/(p=i/\q<j)then kp (a+1) X p q else kp a X p q
theorem GM (a:Nat) (X:FF) (i j p q:Nat):upd (s7 a X i j) i j (kp a X i j+X a i*X a j) p q=s7 a X i (j+1) p q:=by
 unfold upd s7;by_cases b:p=i
 ·subst b;grind [wM]
 simp[b]
theorem Nq (a:Nat) (X:FF) (i p q:Nat) (b:q<n):s7 a X i n p q=s7 a X (i+1) 0 p q:=by
 grind [s7]
theorem GN (a:Nat) (X:FF):s7 a X 0 0=kp a X:=by
 grind [s7]
theorem Np (a:Nat) (X:FF) (p q:Nat) (b:p<n):s7 a X n 0 p q=kp (a+1) X p q:=by
 grind [s7]
theorem XR (a:Nat) (X:FF) (i j:Nat):s7 a X i j i j=kp a X i j:=by grind [s7]
theorem Mc (n:Nat) (L:List (List Int)) (w:1<=n) (hn:n<=8) (hm:L.length<=20) (B: ∀x∈L,x.length=n) (v: ∀x∈L,∀z∈x,z.natAbs<=1099511627776):
  CallC prog 65 [.raw (.int .i64 (n:Int)),bV L] ⟨[],.raw (.int .i64 (rkF n (kp L.length (xL L)):Int))⟩:=by
 have m: ∀a x i,L[a]?=some x->i<n->x[i]?=some (xL L a i)/\(xL L a i).natAbs<=1099511627776:=fun a x i g e=>by
  have h1:=B x (adQ g);obtain⟨z,C⟩:=getElem?_of_lt (show i<x.length by omega);have:xL L a i=z:=by
   grind [xL]
  rw[this];exact⟨C,v x (adQ g) z (adQ C)⟩
 have t: ∀a i,a<L.length->i<n->Sz (xL L a i) 2/\(xL L a i).natAbs<=1099511627776:=fun a i h e=>by
  obtain⟨x,g⟩:=getElem?_of_lt h;have:=(m a x i g e).2;exact⟨by show _<_;omega,this⟩
 generalize xL L=X at*
 have y:=fun a (h:a<=L.length)=>Kk (n:=n) a h fun b i v e=>(t b i v e).1
 have A:=qL n n (by omega) (by omega);rw[nH,n5]at A;have cR:=F7 n (kp L.length X) w (by omega) fun i j e o=>(y L.length (aeJ _) i j e o).mono (by omega)
 generalize rkF n (kp L.length X)=rk at*
 refine aB func65 rfl ntmps65 (aE (k:=bu [⟨2,_,_,_,A⟩] (k:=aj (aZ (k:=?_)))));refine ay (G:=fp L.length) (fun q=>⟨(j4 (jk::.one (.sl 14 0 0 n)::j4 (j4 (jk::bV L::rN L.length::rN q.i::j16 (j16 (j4 (j4 (j4 (jk::jk::jk::[]))))))))),Hm [(14,gC 14 n n (kp q.i X))]⟩) (fun q=>L.length-q.i) ⟨0,by omega⟩ ?_ ?_
 ·refine ak ⟨fD 0 14 n n _,trivial⟩ ?_;simp[wk]
 rintro⟨a,R⟩;simp only;by_cases h:a<L.length
 ·obtain⟨x,g⟩:=getElem?_of_lt h;have Y:=B x (adQ g);have O:IntKind.i64.wrap ((a:Int)+1)=((a+1:Nat):Int):=by grind [aH]
  refine ax (k:=aP rfl (aj (ao (aF g (k:=aZ (k:=?_))))));refine ay (G:=fp n) (fun q=>⟨(j4 (jk::.one (.sl 14 0 0 n)::jk::d7 x::j4 (jk::jk::jk::bV L::rN L.length::rN a::j4 (.raw (.int .i64 (n:Int))::rN q.i::j16 (j16 (j4 (j4 (jk::[])))))))),Hm [(14,gC 14 n n (s7 a X q.i 0))]⟩) (fun q=>n-q.i) ⟨0,by omega⟩ ?_ ?_
  ·rw[GN];refine ak ⟨rfl,trivial⟩ ?_;simp[wk]
  rintro⟨i,S⟩;simp only;by_cases e:i<n
  ·have P:IntKind.i64.wrap ((i:Int)+1)=((i+1:Nat):Int):=by grind [aH]
   obtain⟨Z,b1⟩:=m a x i g e;refine ax (k:=aP rfl (aj (ao (aZ (k:=aZ (k:=?_))))));refine ay (G:=fp n) (fun q=>⟨(j4 (jk::.one (.sl 14 0 0 n)::jk::d7 x::rN i::j4 (jk::jk::bV L::rN L.length::rN a::j4 (.raw (.int .i64 (n:Int))::rN i::jk::jk::jk::rN n::rN q.i::j16 (j16 (j4 ([]))))))),Hm [(14,gC 14 n n (s7 a X i q.i))]⟩) (fun q=>n-q.i) ⟨0,by omega⟩ ?_ ?_
   ·refine ak ⟨rfl,trivial⟩ ?_;simp[wk]
   rintro⟨j,T⟩;simp only;by_cases o:j<n
   ·have Q:IntKind.i64.wrap ((j:Int)+1)=((j+1:Nat):Int):=by grind [aH]
    obtain⟨x2,b2⟩:=m a x j g o;have F:=bO (n:=n) (i:=i) 14 n e;have H:=dp n (s7 a X i j) e;have I:(aA n (s7 a X i j i))[j]?=some (kp a X i j):=by rw[aw _ o,XR]
    have D:=(t a i h e).1;have E:=(t a j h o).1;have J:=er (X a i) (by omega) (by omega);have K:=er (X a j) (by omega) (by omega);have M:=gu (X a i) (X a j) (D.mono (by omega)) (E.mono (by omega));have N:=ql (kp a X i j) (X a i*X a j) ((y a (by omega) i j e o).mono (by omega)) ((D.mul E).mono (by omega));refine ax (k:=aP rfl (aj (ao (aZ (k:=fP [⟨16,_,_,_,J⟩,⟨21,_,_,_,K⟩,⟨22,_,_,_,M⟩,⟨23,_,_,_,N⟩] (aG F (aG H (aG I (aG Z (aG x2 @gS))))) (k:=df Q (k:=?_)))))));refine⟨⟨j+1,by omega⟩,by grind,ak ⟨?_,trivial⟩ ?_⟩
    ·show _::_=_::_;simp_all[bC,GM]
    simp[wk]
   have s:j=n:=by omega
   subst s;refine ax (k:=aQ rfl (df P (k:=?_)));refine⟨⟨i+1,by omega⟩,by grind,ak ⟨?_,trivial⟩ ?_⟩
   ·show _::_=_::_;rw[bC fun p q _ V=>Nq a X i p q V]
   simp[wk]
  have r:i=n:=by omega
  subst r;refine ax (k:=aQ rfl (df O (k:=?_)));refine⟨⟨a+1,by omega⟩,by grind,ak ⟨?_,trivial⟩ ?_⟩
  ·show _::_=_::_;rw[bC fun p q U _=>Np a X p q U]
  simp[wk]
 have u:a=L.length:=by omega
 subst u;generalize kp L.length X=W at*
 refine ax (k:=aQ rfl ?_);show bv _ _ _ _;refine bv.weak ((bR 14 (iq (d:=14) (n:=n) (c:=n) (f:=W) rfl)).trans (ak (tm:=(j4 (jk::dq (mat n n W)::j16 (j16 (j16 (j4 (j4 (jk::jk::jk::[])))))))) (l:=[]) trivial (by
  simp[wk];grind [Ow]))) ?_
 refine bu [⟨1,_,_,_,cR⟩] (k:=aZ (k:=aI @results65))
theorem AT {n:Nat} {f:FF} {B:Int} (p:n<=4) (b:RedR f n) (l:0<=B) (m:B<=262144): ∀k (y:List Int),y.length+k=n->uw y->fq f n B k (aL n y)-> ∀z∈e9 f n B k y,uw z
 |0,y,_,j,_,z,c=>by
  grind [e9]
 |k+1,y,g,j,o,z,c=>by
  rw[e9,ahj]at c;obtain⟨x,r,c⟩:=c;obtain⟨v,u⟩:=mr.1 r;obtain⟨s,t⟩:=jv b p l m g j o;have h: ∀i,k<i->i<n->aL n (x::y) i=aL n y i:=fun i e _=>ia g e
  refine AT p b l m k (x::y) (by grind) (j.cons (by omega)) ?_ z c;rw[ig b.pd (by omega) ((fq.tail b.pd (by omega) fun i e q=>h i e q).2 o),iV g,lf b.pd (by omega) h,k9 b.pd (by omega) h];omega
theorem Lm (p:n<=4) (h:RedR b n) (g:0<=x) (m:x<=262144) (j:e∈e9 b n x n []):e.length=n/\ ∀c∈e,c.natAbs<=5704253440:=by
 have l:=((vv h.pd g e).1 j).1;refine⟨l,fun c o=>?_⟩;have q:=(AT p h g m n [] (by simp) uw.nil (gN h.pd g) e j).bd c o;grind [g9]
structure MnE (n:Nat) (its R:List (Int×List Int)) where
 i:Nat
 ch:List (Int×List Int)
 hi:i<=its.length
 hc:ch.length<=n
 hm: ∀x∈ch,x∈its
 e:grS n (its.drop i) ch=R
theorem zX (n:Nat) (f:FF) (e:Int) (m:1<=n) (u:n<=4) (A:RedR f n) (s:0<=e) (N:e<=900000) (D:(nh n f (dN f n) e).1=true->(e9 f n (dN f n) n []).length<=8193):
  CallC prog 29 [bV (mat n n f),.raw (.int .i64 e)] ⟨[],if(nh n f (dN f n) e).1=true then wq ((grS n (xq n f (dN f n)) []).map Prod.fst) 0 else wq [] 9⟩:=by
 have C:=iZ m (by omega) A;have Q: ∀i j,i<n->j<n->ju (f i j):=fun i j W hj=>by have:=C i W j hj;constructor<;>omega
 obtain⟨J,L⟩:=Fg (f:=f) (M:=262144) (by omega) n fun i W=>by grind
 have H:=tj n f u;have E:=ny n f (dN f n) e m u A Q J L s N D;have cR:=nu (mat n n f) (mS m u A);obtain⟨hl,X⟩:=ur (f:=f) (B:=dN f n) (bud:=e) m s;by_cases r:(nh n f (dN f n) e).1=true
 case neg=>
  rw[if_neg r]at E⊢;generalize dN f n=B at*
  generalize mat n n f=M at*
  refine aB func29 rfl ntmps29 (aE (k:=aj (bu [⟨1,_,_,_,cR⟩] (k:=aq rfl (al (aj (fJ [⟨2,_,_,_,H⟩,⟨4,_,_,_,E⟩] @Kn.eq_1 (k:=ax (k:=aC rfl (aZ (k:=?_)))))))))));refine aM ⟨.inr rfl,lW 4 rfl rfl ?_ rfl⟩;simp(disch:=omega) only[kd,results29,wq]
 have D:=D r;obtain⟨⟨_,w,hs⟩,he⟩:=X r;have h1:=D9 w (show n-1<n by omega);have Z:=uF n f (dN f n) m u A Q J L (by omega);have ab:(xq n f (dN f n)).length<=8193:=by
  have h2:=pR ((e9 f n (dN f n) n []).map (ml n f));rw[ae3]at h2;show(pQ _).length<=8193;omega
 have ad: ∀x∈xq n f (dN f n),x.2.length=n/\ ∀c∈x.2,c.natAbs<=5704253440:=fun x F=>by
  obtain⟨z,D,rfl⟩:=aeL.1 (vp.1 F).1;exact Lm u A J L D
 rw[if_pos r]at E⊢;have T:=aS n n f;generalize sL n (nh n f (dN f n) e).2=sm at*
 generalize hR:grS n (xq n f (dN f n)) []=R;generalize xq n f (dN f n)=h at*
 generalize dN f n=B at*
 generalize mat n n f=M at*
 clear hs he h1 w hl X r Q C;refine aB func29 rfl ntmps29 (aE (k:=aj (bu [⟨1,_,_,_,cR⟩] (k:=aq rfl (al (aj (fJ [⟨2,_,_,_,H⟩,⟨4,_,_,_,E⟩] @Kn.eq_1 (k:=ax (k:=aq rfl (al (aZ (k:=aZ (k:=aj (bu [⟨2,_,_,_,H⟩,⟨3,_,_,_,Z⟩] (k:=?_)))))))))))))));refine ay (G:=MnE n h R) (fun g=>⟨(bV M::j4 (j4 (.one (.sl 9 0 0 g.ch.length)::.one (.sl 10 0 0 g.ch.length)::j16 (j4 (C7 h::rN h.length::rN g.i::j16 (j4 (j4 (jk::jk::[])))))))),Hm [(9,[⟨2,1,lc fI (g.ch.map Prod.fst)⟩]),(10,[⟨35,1,lc (fR fI) (g.ch.map Prod.snd)⟩])]⟩) (fun g=>h.length-g.i) ⟨0,[],by omega,by simp,by simp,hR⟩ ?_ ?_
 ·refine(ca (k:=9) (d:=9) 2 1 (by omega) rfl rfl).trans ((ca (k:=10) (d:=10) 35 1 (by omega) rfl rfl).trans (ak ⟨rfl,rfl,trivial⟩ ?_));simp[wk]
 rintro⟨i,b,ac,P,O,l⟩;simp only;by_cases hm:i<h.length
 ·obtain⟨x,F⟩:=getElem?_of_lt hm;have ag:=adQ F;have hd:h.drop i=x::h.drop (i+1):=by
   grind [List.drop_eq_getElem_cons]
  rw[hd,grS]at l;have V:IntKind.i64.wrap ((i:Int)+1)=((i+1:Nat):Int):=by grind [aH]
  have hL:((b++[x]).map Prod.snd).length=b.length+1:=by simp
  have I:=Mc n ((b++[x]).map Prod.snd) m (by omega) (by omega) (fun y Y=>by
   grind) (fun y Y=>by
   obtain⟨q,hq,rfl⟩:=aeL.1 Y;grind)
  rw[hL,Ns]at I;have af:=Mi n (kp (b.length+1) (vL (b++[x])));generalize rkF n (kp (b.length+1) (vL (b++[x])))=rk at*
  obtain⟨v,z⟩:=x;have U:(b++[(v,z)]).map Prod.snd=b.map Prod.snd++[z]:=by simp
  have e2:(b++[(v,z)]).map Prod.fst=b.map Prod.fst++[v]:=by simp
  have l1:(b.map Prod.snd).length=b.length:=ae3 _;have l2:(b.map Prod.fst).length=b.length:=ae3 _;rw[U]at I;refine ax (k:=aP rfl (aj (ao (aF F (k:=EF 6 10 I (by decide) [] [] (by decide) fun K o=>?_)))));simp(disch:=omega) only[kd,aa,T,ae,Nat.reduceMul,ah];apply o;clear o K;refine⟨43,44,⟨_,_,_,_,_,24,⟨35,1,lc (fR fI) (b.map Prod.snd)⟩,[[.p (.sl (ls fI z))]],[.slice none 0 0],_,_,rfl,rfl,⟨rfl,rfl,rfl⟩,⟨rfl,rfl,rfl⟩,⟨?_,rfl,rfl⟩,⟨rfl,rfl,rfl,rfl,rfl⟩,⟨Fw _,by simp,by simp,by simp only[fO,l1,ae6,afP];omega,by simp only[fO,l1,ae6,afP];omega⟩,?_,rfl,by simp⟩,?_⟩
  ·simp only[fO,l1];rfl
  ·rw[i7,nG]
  intro K o;by_cases t:b.length<rk
  ·rw[if_pos t]at l;simp(disch:=omega) only[kd,aa];apply o;clear o K;refine aC rfl (aF (aG l1 @i7) (k:=dz (aG l2 @j6) (k:=df V (k:=?_))));refine⟨⟨i+1,b++[(v,z)],by omega,by grind,fun q hq=>?_,l⟩,by simp only;omega,ak ⟨?_,?_,trivial⟩ ?_⟩
   ·grind
   ·simp only[e2];rfl
   ·simp only[U];rfl
   simp[wk]
  rw[if_neg t]at l;simp(disch:=omega) only[kd,aa];apply o;clear o K;refine aq rfl (al (df V (k:=?_)));refine⟨⟨i+1,b,by omega,P,O,l⟩,by grind,ak ⟨rfl,rfl,trivial⟩ ?_⟩;simp[wk]
 have S:i=h.length:=by omega
 subst S;rw[ags,grS]at l;subst l;have eT:List.take b.length (b.map Prod.fst)=b.map Prod.fst:=aeS (by simp);refine ax (k:=aQ rfl (aZ (k:=?_)));refine aM ⟨.inr rfl,dI 9 (bj rfl) ?_ rfl⟩;simp(disch:=omega) only[kd,results29,ae,eT,wq]
theorem LI (j:Rf h n b) (q:n<=3) (s: ∀i,i<n->b i i<=36) {k:Int} (o:0<=k) (v:k<=20000): ∃(d:List Int) (e:Int),CallC prog 28 [bV h,.raw (.int .i64 k)] ⟨[],wq d e⟩/\CallC prog 29 [bV h,.raw (.int .i64 k)] ⟨[],wq d e⟩:=by
 obtain⟨w,x⟩:=Bl j q s o v;have g:=j.n1;obtain⟨p,u⟩:=yn (by omega) s;have t1:=rP (j.vs p (by omega)) g q u;have l1:=nZ (f:=b) (n:=n) (B:=dN b n) (n-1) [];rw[show n-1+1=n by omega]at l1;have l:=zX n b k g (by omega) j.r o (by omega) (fun _=>by omega);rw[<- j.e]at l;have t:=zy (f:=b) (B:=dN b n) (bud:=k) g o;by_cases m:(toL b n (dN b n) (n-1) []:Int)<=k
 ·rw[if_pos (t.2 m),OE j p (by omega)]at l;exact⟨_,_,w m,l⟩
 rw[if_neg fun c=>m (t.1 c)]at l;exact⟨_,_,x (by omega),l⟩
theorem yv (c b:Nat) (L B:List Int) (t:Nat) (J:I8 L) (p:c<=255) (j:b<=255) (S:t<=65535):CallC prog 9 [tL c b L B,.raw (.int .u16 (t:Int))] ⟨[],.raw (.bool true)⟩:=by
 have F:=oA;obtain⟨n,C⟩: ∃n,n=1+c%3:=⟨_,rfl⟩;have m:1<=n:=by omega
 have x:n<=3:=by have:=afp c (show 0<3 by omega);omega
 obtain⟨h,T,r,s⟩:=zM b L m (by omega);have cF:=uE c b L B 3 n h T J p j (by omega) (by omega) C r s;rw[show((3:Nat):Int)=3 from rfl]at cF;have y:=sJ m (by omega) r;have z: ∀i,i<n->ent (mat n n h) i i<=36:=fun i q=>by rw[mj h q q];exact Ov m x r s i q
 generalize mat n n h=M at*
 clear r s;generalize ent M=f at*
 obtain⟨o,v⟩: ∃k,k=t%200:=⟨_,rfl⟩;have O:o<=200:=by omega
 have I:Int.tmod (t:Int) 200=(o:Int):=by rw[v];exact(ahs t 200).symm
 have K:=fun(k:Int) h0 h1=>LI y x z (k:=k) h0 h1
 clear y C z;refine aB func9 rfl ntmps9 (je @tL.eq_1 (k:=fJ [⟨1,_,_,_,cF⟩] @tL.eq_1 (k:=aj (aF I (k:=?_)))));refine ay (G:=fp 2) (fun g=>⟨(j4 (jk::bV M::j4 (j4 (jk::jk::jk::d7 [(o:Int),20000]::.raw (.int .i64 2)::rN g.i::j16 (j4 (j4 (jk::jk::[]))))))),Hm []⟩) (fun g=>2-g.i) ⟨0,by omega⟩ ?_ ?_
 ·refine ak trivial ?_;simp[wk,ls,fI]
 rintro⟨i,q⟩;simp only;by_cases R:i<2
 ·have H:IntKind.i64.wrap ((i:Int)+1)=((i+1:Nat):Int):=by rw[aH (by omega) (by omega)];omega
  have u:((i:Int)<2)=True:=eq_true (by omega);obtain⟨k,N,P,Q⟩: ∃k:Int,[(o:Int),20000][i]?=some k/\0<=k/\k<=20000:=by
   rcases(show i=0\/i=1 by omega)with rfl|rfl
   ·exact⟨_,rfl,by omega,by omega⟩
   exact⟨_,rfl,by omega,by omega⟩
  have A:([(o:Int),20000]:List Int).length=2:=rfl;generalize[(o:Int),20000]=ks at*
  obtain⟨l,e,D,E⟩:=K k P Q;have w:=fA l l;rw[gH]at w;refine aF u (k:=aP rfl (aj (ao (aF N (k:=bu [⟨2,_,_,_,D⟩] (k:=bu [⟨2,_,_,_,E⟩] (k:=bD [⟨6,_,_,_,w⟩] (k:=aq rfl (al (df H (k:=?_)))))))))));refine⟨⟨i+1,by omega⟩,by simp only;omega,ak trivial ?_⟩;simp[wk]
 obtain rfl:i=2:=by omega
 refine ax (k:=aQ rfl (bu [⟨0,_,_,_,F⟩] (k:=aI @results9)))
theorem La (f:FF):dk f 2=f 0 0*f 1 1-f 0 1*f 1 0:=by
 simp[dk,om,eH,jc];grind
def gB (i j:Nat) (c:Int) (f:FF):Nat->Nat->Int:=fun r b=>
 if i=j then(if c<0 then(if b=i then-f r i else f r b)else f r b)
 else if c=0 then(if b=i then f r j else if b=j then f r i else f r b)
 else if b=i then f r i+c*f r j else f r b
def gP (i j:Nat) (c:Int) (f:FF) (m:Nat):Nat->Nat->Int:=fun r b=>if r<m then gB i j c f r b else f r b
theorem xd (i j:Nat) (c:Int) (f:FF):gP i j c f 0=f:=by funext r b;simp[gP]
theorem oD {i:Nat} (e:Nat):gP i n x b m m e=b m e:=by simp[gP]
theorem AA {i:Nat} {r e:Nat} (h:r<m):gP i n x b m r e=gB i n x b r e:=by simp[gP,h]
def bX (L:List Int) (n:Nat):Nat->(Nat->Nat->Int)×Nat
 |0=>(fun i j=>if i=j then 1 else 0,0)
 |k+1=>
  let s:=bX L n k
  if s.2<L.length then(gB (kr L s.2 n) (kr L (bL L s.2) n) (Int.tmod (L.getD (bL L (bL L s.2)) 0) 3) s.1,bL L (bL L (bL L s.2)))else s
def d6 (L:List Int) (n:Nat):Nat->Nat->Int:=(bX L n 12).1
theorem jR {L:List Int} {n k:Nat} (h: ¬(bX L n k).2<L.length): ∀m,bX L n (k+m)=bX L n k
 |0=>rfl
 |m+1=>by
  have b:=jR h m;rw[<- ahc,bX];rw[b,if_neg h]
theorem CJ {L:List Int} {n k:Nat} (b:k<=12) (h:k=12\/ ¬(bX L n k).2<L.length):(bX L n k).1=d6 L n:=by
 unfold d6;rcases h with rfl|h
 ·rfl
 have:=jR h (12-k);rw[show k+(12-k)=12 by omega]at this;rw[this]
theorem sV (L:List Int) (n:Nat): ∀k,(bX L n k).2<=L.length
 |0=>afl _
 |k+1=>by
  have b:=sV L n k;rw[bX];split
  ·exact fg (fg (fg b))
  exact b
theorem AB {i j:Nat} (o: -2<=x/\x<=2) (h: ∀a e,(b a e).natAbs<=n) (a e:Nat):(gB i j x b a e).natAbs<=3*n:=by
 have g:=h a e;have l:=h a i;have m:=h a j;unfold gB;split
 ·split
  ·split<;>omega
  omega
 split
 ·split
  ·omega
  split<;>omega
 split
 ·have:x= -2\/x= -1\/x=1\/x=2:=by omega
  rcases this with rfl|rfl|rfl|rfl<;>omega
 omega
theorem xZ (x:Int): -2<=Int.tmod x 3/\Int.tmod x 3<=2:=by
 have b:=ahq x (show(0:Int)<3 by omega);have c:=ahp x (show(0:Int)<3 by omega);omega
theorem nQ (L:List Int) (n:Nat): ∀k a b,((bX L n k).1 a b).natAbs<=3^k
 |0,a,b=>by
  rw[bX];show(if a=b then(1:Int)else 0).natAbs<=3^0;split<;>simp
 |k+1,a,b=>by
  have c:=nQ L n k;rw[bX];split
  ·have:=AB (i:=kr L (bX L n k).2 n) (j:=kr L (bL L (bX L n k).2) n) (xZ (L.getD (bL L (bL L (bX L n k).2)) 0)) c a b;exact aeN this (by rw[af3];omega)
  have:=c a b;exact aeN this (by rw[af3];omega)
theorem kV (L:List Int) (n:Nat) {k:Nat} (e:k<=12) (a b:Nat): -531441<=(bX L n k).1 a b/\(bX L n k).1 a b<=531441:=by
 have f:=nQ L n k a b;have c:3^k<=3^12:=ae5 (by omega) e;rw[show 3^12=531441 from rfl]at c;omega
theorem qT {i:Nat} (c:Int) (f:FF) (l:i<m) (o:n<m):(dk (gB i n c f) m).natAbs=(dk f m).natAbs:=by
 by_cases e:i=n
 ·by_cases g:c<0
  ·have h:gB i n c f=eR f i (fun r=> - f r i):=by
    funext r b;unfold gB eR;rw[if_pos e,if_pos g]
   rw[h,r5 l,agw]
  have h:gB i n c f=f:=by
   funext r b;unfold gB;rw[if_pos e,if_neg g]
  rw[h]
 by_cases g:c=0
 ·have h:gB i n c f=fun r b=>if b=i then f r n else if b=n then f r i else f r b:=by
   funext r b;unfold gB;rw[if_neg e,if_pos g]
  rw[h,mQ l o e,agw]
 have h:gB i n c f=eR f i (fun r=>f r i+c*f r n):=by
  funext r b;unfold gB eR;rw[if_neg e,if_neg g]
 rw[h,kG l o e]
theorem nR (L:List Int) {n:Nat} (b:0<n): ∀k,(dk (bX L n k).1 n).natAbs=1
 |0=>by rw[bX,E8];rfl
 |k+1=>by
  have c:=nR L b k;rw[bX];split
  ·rw[qT _ _ (dH _ _ b) (dH _ _ b),c]
  exact c
theorem wI (L:List Int) {n:Nat} (b:0<n):(dk (d6 L n) n).natAbs=1:=nR L b 12
theorem kU (L:List Int) (n a b:Nat): -531441<=d6 L n a b/\d6 L n a b<=531441:=kV L n (aeJ 12) a b
section
variable {n:Nat}
theorem jm.mul (g:jm n b) (h:jm n c):jm n (eJ n b c):=fun v=>by
 obtain⟨y,l⟩:=g v;obtain⟨z,m⟩:=h y;refine⟨z,fun j e=>?_⟩;rw[<- l j e];unfold mV;rw[au n (F:=fun a=>y a*b j a) (G:=fun p=>smF (fun a=>z a*(b j p*c p a)) n) (fun p f=>by
  rw[<- m p f];unfold mV;rw[<- iT];exact au n fun a _=>by grind),eh]
 exact au n fun a _=>by rw[bP,aW]
theorem fb.trans {p:FF} (l:fb n b c) (m:fb n c p):fb n b p:=by
 obtain⟨T,r,f⟩:=l;obtain⟨S,s,j⟩:=m;refine⟨_,r.mul s,fun a e o q=>?_⟩;rw[<- zi,EZ f];exact j a e o q
theorem nc (l:yM n b idF c):fb n b (qx n b (Ms (qx n b c) c)):=by
 have one:jm n (trF idF):=jm.one.congr fun i j _ _=>by
  show(if j=i then(1:Int)else 0)=if i=j then 1 else 0
  by_cases e:i=j<;>simp[e,eq_comm]
 exact⟨_,Gl (g:=qx n b c) (BO l one),fun a f _ _=>by rw[<- r9]⟩
theorem rh {q:FF} (t:n<=4) (r:fb n b c) (s:fb n b q) (w:PD c n) (x:PD q n) (u:fd c n) (v:fd q n) {i:Nat} (e:i<n):c i i=q i i:=by
 obtain⟨T,y,m⟩:=r;obtain⟨S,z,o⟩:=s;have f:=fun i j e l=>(m i j e l).symm
 have h:=fun i j e l=>(o i j e l).symm
 rw[<- m i i e e,<- o i i e e];exact xz t (w.congr f) (x.congr h) (u.congr f) (v.congr h) y.rinv z.rinv e
/-! Unimodular of quadformmake. -/
theorem uW {i:Nat} (c:Int) (p:i<n) (q:m<n) (h:jm n b):jm n (gB i m c b):=by
 by_cases e:i=m
 ·by_cases l:c<0
  ·refine(h.sign (s:=fun a=>if a=i then -1 else 1) (fun a=>by by_cases r:a=i<;>simp[r])).congr fun a g _ _=>?_
   unfold gB;rw[if_pos e,if_pos l];by_cases o:g=i
   ·subst o;simp
   simp[o]
  refine h.congr fun a g _ _=>?_
  unfold gB;rw[if_pos e,if_neg l]
 by_cases l:c=0
 ·refine(h.swap p q).congr fun a g _ _=>?_
  unfold gB;rw[if_neg e,if_pos l]
 refine(h.addc p q e c).congr fun a g _ _=>?_
 unfold gB;rw[if_neg e,if_neg l]
theorem lR (L:List Int) (b:0<n): ∀k,jm n (bX L n k).1
 |0=>Gu.congr fun _ _ _ _=>rfl
 |k+1=>by
  have c:=lR L b k;rw[bX];split
  ·exact uW _ (dH _ _ b) (dH _ _ b) c
  exact c
theorem vz (X:FF) (i j:Nat) (c:Int) (f:FF) (r b:Nat):eJ n X (gB i j c f) r b=gB i j c (eJ n X f) r b:=by
 have m: ∀(A:FF) b,eJ n X A r b=smF (fun p=>X r p*A p b) n:=fun A b=>bP _ _ _ _ _
 by_cases e:i=j
 ·by_cases l:c<0
  ·simp only[gB,if_pos e,if_pos l,m];by_cases g:b=i
   ·simp only[if_pos g];have o:=aW (-1) (fun p=>X r p*f p i) n;rw[au n (G:=fun p=> -1*(X r p*f p i)) (fun p _=>by grind),o];omega
   simp only[if_neg g]
  simp only[gB,if_pos e,if_neg l,m]
 by_cases l:c=0
 ·simp only[gB,if_neg e,if_pos l,m];by_cases g:b=i
  ·simp only[if_pos g]
  by_cases h:b=j
  ·simp only[if_neg g,if_pos h]
  simp only[if_neg g,if_neg h]
 simp only[gB,if_neg e,if_neg l,m];by_cases g:b=i
 ·simp only[if_pos g];rw[<- aW c,<- iw];exact au n fun p _=>by grind
 simp only[if_neg g]
theorem fy (L:List Int) (b:0<n) (X:FF): ∀k,(dk (eJ n X (bX L n k).1) n).natAbs=(dk X n).natAbs
 |0=>by
  rw[cy (g:=X) fun i j _ e=>?_];rw[bP];exact rK (y:=fun p=>X i p) e
 |k+1=>by
  have c:=fy L b X k;rw[bX];split
  ·rw[cy (k:=n) fun i j _ _=>vz X _ _ _ _ i j,qT _ _ (dH _ _ b) (dH _ _ b),c]
  exact c
theorem tc (b:n<=4) (f:FF):dk (trF f) n=dk f n:=by
 have:n=0\/n=1\/n=2\/n=3\/n=4:=by omega
 rcases this with rfl|rfl|rfl|rfl|rfl
 ·rfl
 ·simp[dk,om,eH,jc,trF]
 ·simp[dk,om,eH,jc,trF];grind
 ·simp[dk,om,eH,jc,trF];grind
 simp[dk,om,eH,jc,trF];grind
theorem mP (L:List Int) (b:1<=n) (c:n<=4) (g:FF):(dk (bY n g (d6 L n)) n).natAbs=(dk g n).natAbs:=by
 unfold bY;rw[show d6 L n=(bX L n 12).1 from rfl,fy L b _ 12,cy (g:=trF (eJ n (trF g) (bX L n 12).1)) fun i j _ _=>?_,tc c,fy L b _ 12,tc c];rw[trF,bP,bP];exact au n fun p _=>af0 _ _
theorem mN (L:List Int) (p: ∀a c,(b a c).natAbs<=m) (o:n*n*m<=200) (a c:Nat):(bY n b (d6 L n) a c).natAbs<=2^46:=by
 have f: ∀a c,(d6 L n a c).natAbs<=531441:=fun a c=>by have:=kU L n a c;omega
 rw[jZ];have h: ∀i,(smF (fun j=>b i j*d6 L n j c) n).natAbs<=n*(m*531441):=fun i=>ki n fun j _=>by
  rw[afr];exact afd (p i j) (f j c)
 have l:(BF n b (fun i=>d6 L n i a) fun j=>d6 L n j c).natAbs<=n*(531441*(n*(m*531441))):=ki n fun i _=>by
  rw[afr];exact afd (f i a) (h i)
 refine aeN l ?_;have e:n*(531441*(n*(m*531441)))=n*n*m*(531441*531441):=by grind
 rw[e];exact aeN (ae2 _ o) (by decide)
theorem Md (L:List Int) {E:Nat} (q:1<=n) (r:n<=4) (z:GoodP n b) (w: ∀a c,(b a c).natAbs<=E) (v:n*n*E<=200):zY 4 (2^192) 90 n (bY n b (d6 L n)):=by
 obtain⟨A,s,x⟩:=z;have u:PD b n:=⟨A,fun k m=>(n9 s k m).1⟩;have B:=wI L (n:=n) (by omega);have l:PD (bY n b (d6 L n)) n:=u.cng (by omega);have o:=mN L w v;have h:uG (bY n b (d6 L n)) n:=fun k m=>by
  rw[ip fun t G=>by have:=l.2 t (by omega);omega];exact l.2 k m
 have e: ∀f:Nat->Nat->Int,uG f n->detF n f=dk f n:=fun f y=>by
  have:=(n9 y (n-1) (by omega)).2;rwa[show n-1+1=n by omega]at this
 have p:detF n (bY n b (d6 L n))<=10000:=by
  have C:=mP L q r b;have D:=l.det;have F:=u.det;rw[e _ s]at x;rw[e _ h];omega
 refine⟨⟨l.1,h,p⟩,fun i j _ _=>?_,RedI.start_ bd4 r l.1 h (fun k m=>?_) (fun a _=>aeN (o a a) (by decide)) fun a c _ _=>xn a c⟩
 ·exact Sz.mono (k:=2) (agd (o i j) (by decide)) (by omega)
 exact aeN (E7 (L:=4) (by decide) o (by omega)) (by decide)
theorem GE (L:List Int) (b:1<=n) (g:FF):fb n g (bY n g (d6 L n)):=⟨_,lR L b 12,fun _ _ _ _=>rfl⟩
end
section
theorem ru (n:Nat) (f:FF) (x:Nat->Int):gp n f (aA n x)=BF n f x x:=by
 rw[fL];exact cf (fun _ _ _ _=>rfl) (fun i b=>dm x b) fun i b=>dm x b
theorem iR (h:e.length=n):aA n (fun i=>e.getD i 0)=e:=aeW fun i=>by
 by_cases b:i<n
 ·rw[aw _ b,aeM,aeR (show i<e.length by omega)];rfl
 rw[afI (by rw[az];omega),afI (by omega)]
theorem I6 (c:PD b n) (z:List Int):0<=gp n b z:=by
 rw[fL];exact(c.pos _).1
section
variable {n:Nat} {s h:FF}
theorem nP (F G:Nat->Int): ∀m,smF (fun i=>F i-G i) m=smF F m-smF G m
 |0=>rfl
 |m+1=>by rw[smF,smF,smF,nP F G m];omega
theorem vt (x:fb n s h) (y:PD h n): ∃c q:List Int->List Int,(∀z,(c z).length=n/\gp n s (c z)=gp n h z)/\(∀w,w.length=n->(q w).length=n/\c (q w)=w)/\ ∀z b,z.length=n->b.length=n->c z=c b->z=b:=by
 obtain⟨T,p,o⟩:=x;refine⟨fun z=>aA n (mV n T fun i=>z.getD i 0),fun w=>aA n (Classical.choose (p fun i=>w.getD i 0)),fun z=>⟨az _ _,?_⟩,fun w A=>⟨az _ _,?_⟩,fun z b B m e=>?_⟩
 ·rw[ru,mJ,fL];exact cf o (fun _ _=>rfl) fun _ _=>rfl
 ·refine air ?_ (iR A);refine bG fun j f=>?_
  have g:=agN (p fun i=>w.getD i 0) j f;refine air ?_ g;exact au n fun a u=>congrArg (· *T j a) (dm _ u)
 have g: ∀j,j<n->mV n T (fun i=>z.getD i 0-b.getD i 0) j=0:=fun j f=>by
  have l:(aA n (mV n T fun i=>z.getD i 0)).getD j 0=(aA n (mV n T fun i=>b.getD i 0)).getD j 0:=congrArg (·.getD j 0) e;rw[dm _ f,dm _ f]at l;simp only[mV]at l⊢;rw[au (G:=fun a=>z.getD a 0*T j a-b.getD a 0*T j a) n (fun a _=>ai8 _ _ _),nP,l];omega
 have r:BF n h (fun i=>z.getD i 0-b.getD i 0) (fun i=>z.getD i 0-b.getD i 0)=0:=by
  rw[<- cf o (fun _ _=>rfl) fun _ _=>rfl,<- mJ];exact gM g
 have t:=(y.pos _).2.1 r;rw[<- iR B,<- iR m];exact bG fun i v=>by have:=t i v;omega
end
theorem xC {j q:Type} {g:j->q} {l:List j} (f: ∀x∈l,∀y∈l,g x=g y->x=y) (h:l.Nodup):(l.map g).Nodup:=by
 induction l with
 |nil=>simp
 |cons a l p=>
  rw[afU]at h;rw[aeX,afU];refine⟨fun m=>?_,p (fun x n y o=>f x (by simp[n]) y (by simp[o])) h.2⟩;obtain⟨c,b,e⟩:=aeL.1 m;have:=f c (by simp[b]) a (by simp) e;exact h.1 (this▸b)
section
variable {M A B:List (List Int)} {n1 n2:Nat} {h f g:FF}
end
section
variable {M A B:List (List Int)} {n n1 n2:Nat} {h f g:FF}
theorem Eb (l:Rf M n f) (m:e.length=n):0<gp n f e↔bT e≠0:=by
 refine⟨fun c b=>?_,fun b=>FO l m b⟩;have j:=jP.1 b;rw[fL,gM fun i o=>j _ (by rw[aeM,aeR (by omega)];simp)]at c;omega
theorem VE (c:Rf M n f) (m:e.length=n) (q:0<gp n f e):yU f n<=gp n f e:=by
 obtain⟨_,r,o⟩:=xB c;have p:=qt c;rcases afF (gp n f e) (l7 n f)with j|j
 ·have l:=(Eb c m).1 q;have b:=n7 c (s:=bT e) (by have:=dx e;omega) e;have:=o (gp n f e,e.map fun a=>bT e*a) ((cq c (by omega) p.2 _).2 ⟨by simp[m],b.symm,j,by
   rw[g7 (by have:=dx e;omega)];rcases dx e with h|h|h
   ·exact absurd h l
   ·rw[h];rfl
   rw[h];rfl⟩)
  exact this
 omega
theorem VD (b:Rf M n f): ∃z,z.length=n/\gp n f z=yU f n:=by
 have l:=qt b;obtain⟨p,c⟩:=getElem?_of_lt (Et b);obtain⟨e,j,_,_⟩:=(cq b (by omega) l.2 p).1 (adQ c);refine⟨p.2,e,?_⟩;rw[<- j];unfold yU;rw[aeM,c];rfl
end
end
section
section
variable {M:List (List Int)} {n:Nat} {f:FF} {B:Int}
theorem th (f:FF) (n:Nat) (B:Int):(dJ f n B).Pairwise fun a b=>a.1<=b.1:=(rR f n B).imp fun{a b} h=>by
 rcases h with h|h
 ·omega
 omega
theorem uv (h:Rf M n f) (b:0<=B) (c:B<=65536): ∀x∈dJ f n B,x.1=nrm n f fun i=>x.2.getD i 0:=fun x e=>by
 rw[((cq h b c x).1 e).2.1,fL];rfl
theorem ut (h:Rf M n f) (g:0<=B) (p:B<=65536) (z:Nat->Int) (o: ∃i,i<n/\z i≠0) (q:nrm n f z<=B): ∃x∈dJ f n B,∃e:Int,(e=1\/e= -1)/\ ∀i,i<n->x.2.getD i 0=e*z i:=by
 obtain⟨i,r,o⟩:=o;have u:bT (aA n z)≠0:=fun g=>o (jP.1 g (z i) (adQ (aw z r)))
 have c:bT (aA n z)=1\/bT (aA n z)= -1:=by rcases dx (aA n z)with h|h|h<;>simp_all
 have m:bT (aA n z)*bT (aA n z)=1:=by rcases c with h|h<;>rw[h]<;>rfl
 have b:=g7 (x:=aA n z) c;rw[m]at b;have l:gp n f ((aA n z).map fun a=>bT (aA n z)*a)=nrm n f z:=by
  rw[n7 h c,ru];rfl
 generalize bT (aA n z)=s at*
 exact⟨(gp n f ((aA n z).map fun a=>s*a),(aA n z).map fun a=>s*a),(cq h g p _).2 ⟨by rw[ae3,az],rfl,by rw[l];exact q,b⟩,s,c,fun j t=>by
  show((aA n z).map fun a=>s*a).getD j 0=_;rw[aeM,aeG,aw z t];rfl⟩
theorem j8 (b:Rf M n f) (q:n<=4) (m:0<=dN f n) (o:dN f n<=65536): ∃p,fb n f p/\PD p n/\fd p n/\(grS n (dJ f n (dN f n)) []).map Prod.fst=aA n fun i=>p i i:=by
 obtain⟨R,g,_,w,s⟩:=lJ b.n1 q b.r;obtain⟨T,u,e⟩:=nc g;have t:=w.pd b.r.pd;have l:=fun i j c h=>(e i j c h).symm
 refine⟨_,⟨T,u,e⟩,t,s,?_⟩;rw[bG (g':=fun i=>bY n f T i i) fun i c=>(e i i c c).symm];exact lI (B:=dN f n) q (t.congr l) (s.congr l) u (th f n _) (uv b m o) (fun z x v=>ut b m o z x v) fun j h=>xk n j h
theorem FH {a:FF} (r:Rf M n a) (s:Rf h n c) (e:n<=4) (v:fb n b a) (w:fb n b c) (j:0<=dN a n/\dN a n<=65536) (l:0<=dN c n/\dN c n<=65536):
  (grS n (dJ a n (dN a n)) []).map Prod.fst=(grS n (dJ c n (dN c n)) []).map Prod.fst:=by
 obtain⟨p,l1,z,x,m⟩:=j8 r e j.1 j.2;obtain⟨q,u,A,y,o⟩:=j8 s e l.1 l.2;rw[m,o];exact bG fun i t=>rh e (v.trans l1) (w.trans u) z A x y t
theorem vi (f:FF) (n:Nat) (B:Int):GrI n (dJ f n B) (grS n (dJ f n B) []):=by
 have:=se (n:=n) (dJ f n B) [] [] (th f n B) ⟨(fun c g a e=>by simp at e),List.Pairwise.nil,(fun x b=>by cases b),fun x b=>by cases b⟩;rwa[afQ]at this
theorem vq {pre:List (Int×List Int)} (h:GrI n pre j) {a:Nat} (g:a<=m) (c:m<j.length):kL j a<=kL j m:=by
 by_cases e:a=m
 ·rw[e];exact afY _
 have:=agP.1 h.asc a m (by omega) c (by omega);unfold kL;rw[aeM,aeM,aeR (show a<j.length by omega),aeR c];exact this
theorem WF (h:Rf M n f) (g:0<=B) (l:B<=65536) {i:Nat} (v:i<(grS n (dJ f n B) []).length) {C:Int} (o:0<=C) (L:C<kL (grS n (dJ f n B) []) i):rkF n (kp (dJ f n C).length (vL (dJ f n C)))<=i:=by
 have m:=vi f n B;generalize u:grS n (dJ f n B) []=p at*
 obtain⟨y,E,K,_⟩:=jf v;have F:=((cq h g l y).1 (m.sub y E)).2.2.1;refine sK (gK n _) (Y:=vL p) fun a r=>?_
 obtain⟨x,D,_,ev⟩:=jf r;obtain⟨H,I,O,J⟩:=(cq h o (by omega) x).1 D;obtain⟨s,N,G,q,c,A,t⟩:=m.hng x ((cq h g l x).2 ⟨H,I,by omega,J⟩);have e:s<=i:=af2 fun z=>by have:=G i z;omega
 refine⟨q,fun b=>if b<s then c b else 0,A,fun j w=>?_⟩;rw[kY e,ev];exact t j w
theorem WD (h:Rf M n f) (p:0<=B) (q:B<=65536) {i:Nat} (s:i<(grS n (dJ f n B) []).length):i+1<=rkF n (kp (dJ f n (kL (grS n (dJ f n B) []) i)).length (vL (dJ f n (kL (grS n (dJ f n B) []) i)))):=by
 have g:=vi f n B;generalize w:grS n (dJ f n B) []=e at*
 obtain⟨y,D,u,_⟩:=jf s;obtain⟨L,H,N,O⟩:=(cq h p q y).1 (g.sub y D);have o:0<=kL e i:=by rw[u,H];exact I6 h.r.pd _
 refine BV (gK n _) (Y:=vL e) (fun b J=>?_) fun c v a m=>?_
 ·obtain⟨x,C,I,t⟩:=jf (show b<e.length by omega);obtain⟨E,F,K,G⟩:=(cq h p q x).1 (g.sub x C);have A:=vq g (show b<=i by omega) s;obtain⟨a,m⟩:=afo.1 ((cq h o (by omega) x).2 ⟨E,F,by omega,G⟩);refine⟨a,(aeI.1 m).1,fun j _=>?_⟩;rw[t];unfold vL;rw[aeM (l:=dJ f n (kL e i)),m];rfl
 have:=g.ind (fun b=>if b<i+1 then c b else 0) (fun j z=>by
  rw[kY (by omega) c fun b=>vL e b j];exact v j z) a (by omega)
 rwa[if_pos m]at this
theorem Ff (h:Rf M n f) (g:n<=4) (b:0<=dN f n) (c:dN f n<=65536):(grS n (dJ f n (dN f n)) []).length=n:=by
 obtain⟨p,_,_,_,e⟩:=j8 h g b c;have:=congrArg List.length e;rwa[ae3,az]at this
end
end
abbrev rkT (r:Nat×Bool):TV:= .tup [(false,[.p (.raw (.int .i64 (r.1:Int)))]),(false,[.p (.raw (.bool r.2))])]
theorem XT {a:Nat} (b:h[a]?=some e) (i:Nat):xL h a i=e.getD i 0:=by
 grind [xL]
structure RkW (n:Nat) (l:List (List Int)) where
 i:Nat
 ch:List (Int×List Int)
 L:List (List Int)
 ps:List Nat
 hi:i<=l.length
 h:SpCh n ch L ps
 hm: ∀p∈ch,p.2∈l
 hng: ∀a,a<i-> ∃(q:Int) (c:Nat->Int),q≠0/\ ∀j,j<n->q*xL l a j=smF (fun b=>c b*vL ch b j) ch.length
theorem Y2 (p:Int×List Int) {y:Nat->Int} (h: ∃(q:Int) (c:Nat->Int),q≠0/\ ∀e,e<n->q*y e=smF (fun b=>c b*vL j b e) j.length):
  ∃(q:Int) (c:Nat->Int),q≠0/\ ∀e,e<n->q*y e=smF (fun b=>c b*vL (j++[p]) b e) (j++[p]).length:=by
 obtain⟨q,c,f,g⟩:=h;refine⟨q,fun b=>if b<j.length then c b else 0,f,fun e l=>?_⟩;simp_all[kY,au,x7]
theorem RkW.rank {L:List (List Int)} (f:SpCh n j L g) (r: ∀p∈j,p.2∈h) (hng: ∀a,a<h.length-> ∃(q:Int) (c:Nat->Int),q≠0/\ ∀m,m<n->q*xL h a m=smF (fun b=>c b*vL j b m) j.length):rkF n (kp h.length (xL h))=L.length:=by
 rw[<- f.l];refine ad1 (Y:=vL j) (fun b o=>?_) (by rw[f.l];exact f.x.ind) hng;obtain⟨x,s,_,e⟩:=jf o;obtain⟨a,t⟩:=afo.1 (r x s);grind [XT]
theorem VX (M:List (List Int)) (x:List Int) (g:isReducedM M=true) (h:x.length=M.length) (e:x.length<=8) (f: ∀j,-524288<=x.getD j 0/\x.getD j 0<=524288):CallC prog 62 [bV M,d7 x] ⟨[],.raw (.bool true)⟩:=by
 have c:=ge M g;have b:=UG e f;rw[h]at b;refine aB func62 rfl ntmps62 (aE (k:=bD [⟨1,_,_,_,c⟩,⟨6,_,_,_,b⟩] (k:=aI @results62)))
theorem ZF (M l:List (List Int)) (hl:l.length<=1000000) (O:isReducedM M=true) (h3:M.length<=3) (y: ∀x∈l,x.length=M.length/\ ∀c∈x,c.natAbs<32768):CallC prog 26 [bV M,bV l] ⟨[],rkT (rkF M.length (kp l.length (xL l)),true)⟩:=by
 have V:=ge M O;have U:=Pg O;have J:=U.n1;have ab:=U.n8;obtain⟨T,E⟩: ∃T,T=rkF M.length (kp l.length (xL l)):=⟨_,rfl⟩;rw[<- E];refine b6 func26 rfl (by kernel_rfl) ?_;rw[ntmps26];refine am fun _ K=>?_;simp only[kd,bV,aa,af];apply K
 refine aj (bf [⟨1,_,_,_,V⟩] [] fun _ K=>?_);simp only[kd,bV,aa];apply K;refine aq rfl (al ?_);show bv _ _ _ _;refine aj (am fun _ K=>?_);simp only[kd,aa];apply K;refine ay (G:=fp l.length) (fun g=>⟨(bV M::bV l::j4 (j4 (j4 (bV l::rN l.length::rN g.i::j16 (j4 (j4 (jk::jk::[]))))))),Hm []⟩) (fun g=>l.length-g.i) ⟨0,by omega⟩ ?_ ?_
 ·refine ak trivial ?_;simp[wk]
 rintro⟨i,H⟩;simp only;by_cases I:i<l.length
 ·obtain⟨x,z⟩:=getElem?_of_lt I;obtain⟨Q,P⟩:=y x (adQ z);have X:=VX M x O Q (by omega) fun j=>by rw[aeM];cases m:x[j]? with|none=>simp|some c=>have:=P c (adQ m);simp only[agu];omega
  have u:IntKind.i64.wrap ((i:Int)+1)=((i+1:Nat):Int):=by grind [aH]
  refine am fun _ K=>?_;simp(disch:=omega) only[kd,bV];apply K
  refine aP rfl ?_;refine aj (ao ?_);refine am fun _ K=>?_;simp(disch:=omega) only[kd,aa,z,fR];apply K
  refine bf [⟨2,_,_,_,X⟩] [] fun _ K=>?_;simp only[kd,bV,d7,aa];apply K
  refine aq rfl (al ?_);show bv _ _ _ _;refine cJ fun _ K=>?_;simp only[kd,u];apply K
  refine⟨⟨i+1,by omega⟩,by grind,ak trivial ?_⟩;simp[wk]
 have r:i=l.length:=by omega
 subst r;refine am fun _ K=>?_;simp(disch:=omega) only[kd,bV];apply K
 refine aQ rfl ?_;show bv _ _ _ _;refine am fun _ K=>?_;simp(disch:=omega) only[kd,aa];apply K
 refine aj (am fun _ K=>?_);simp only[kd,aa];apply K;refine ay (G:=RkW M.length l) (fun g=>⟨(bV M::j4 (jk::jk::jk::.one (.ptr 8 0 0 0)::j16 (bV l::rN l.length::rN g.i::j4 (j4 (j4 (jk::jk::jk::[])))))),Hm [(8,GU 8 g.L g.ps)]⟩) (fun g=>l.length-g.i) ⟨0,[],[],[],by omega,SpCh.nil,by simp,fun a A=>absurd A (by omega)⟩ ?_ ?_
 ·refine(ib 8 0 0 0 85 1 (by omega) rfl rfl rfl).trans ((ib 8 0 0 1 3 1 (by omega) rfl rfl rfl).trans (ak ⟨rfl,trivial⟩ ?_));simp[wk]
 rintro⟨i,n,L,C,H,m,o,hng⟩;simp only;by_cases I:i<l.length
 ·obtain⟨x,z⟩:=getElem?_of_lt I;have R:=adQ z;obtain⟨xl,xb⟩:=y x R;have N: ∀j,(x.getD j 0).natAbs<32768:=fun j=>by
   grind
  obtain⟨Y,S,Z⟩:=m.add (0,x) (fun j _=>N j) [];have F:=vl m.x.ind;have u:IntKind.i64.wrap ((i:Int)+1)=((i+1:Nat):Int):=by grind [aH]
  have t: ∀(f:List (Int×List Int)),(∀a,a<i-> ∃(q:Int) (c:Nat->Int),q≠0/\ ∀j,j<M.length->q*xL l a j=smF (fun b=>c b*vL f b j) f.length)->(∃(q:Int) (c:Nat->Int),q≠0/\ ∀j,j<M.length->q*x.getD j 0=smF (fun b=>c b*vL f b j) f.length)->
    ∀a,a<i+1-> ∃(q:Int) (c:Nat->Int),q≠0/\ ∀j,j<M.length->q*xL l a j=smF (fun b=>c b*vL f b j) f.length:=fun f h1 ⟨q,c,hq,m⟩ a A=>by
   by_cases e:a=i
   ·subst e;exact⟨q,c,hq,fun j hj=>by grind [XT]⟩
   exact h1 a (by omega)
  refine am fun _ K=>?_;simp(disch:=omega) only[kd,bV];apply K
  refine aP rfl ?_;refine aj (ao ?_);refine am fun _ K=>?_;simp(disch:=omega) only[kd,aa,z,fR];apply K
  by_cases D:L.length<M.length
  ·have s:((L.length:Int)<(M.length:Int))=True:=eq_true (by omega);have W:=aaY J (by omega) (by omega) m.ok xl xb;refine am fun _ K=>?_;simp(disch:=omega) only[kd,aa,s];apply K
   refine aC rfl ?_;refine uJ (iF 1 W 8 [] [] (by kernel_rfl) (by omega) (by decide) fun K w=>?_);simp only[kd];refine w _ ⟨⟨rfl,?_⟩,?_⟩
   ·grind [Pu]
   clear w K;intro K w;simp(disch:=omega) only[kd,aa,CO,cwD,qy,oJ];apply w;clear w K;show bv _ _ _ _;by_cases B:(wN M.length L C x).2.2=true
   ·obtain⟨v,_⟩:=Y ⟨D,B⟩;refine cJ fun _ K=>?_;simp only[kd,u];apply K
    refine⟨⟨i+1,n++[(0,x)],_,_,by omega,v,fun p hp=>?_,t _ (fun a A=>Y2 _ (hng a A)) ⟨1,fun b=>if b=n.length then 1 else 0,by decide,fun j _=>?_⟩⟩,by simp only;omega,ak ⟨rfl,trivial⟩ ?_⟩
    ·grind
    ·have:=rZ (show n.length<(n++[((0:Int),x)]).length by simp) fun b=>vL (n++[((0:Int),x)]) b j
     grind [wJ]
    simp[wk]
   obtain⟨_,v⟩:=S fun h=>B h.2
   have B:(wN M.length L C x).2.2=false:=by grind
   obtain⟨h7,h8⟩:=Z D B;rw[h7,h8];refine cJ fun _ K=>?_;simp only[kd,u];apply K
   refine⟨⟨i+1,n,L,C,by omega,m,o,t _ hng v⟩,by grind,ak ⟨rfl,trivial⟩ ?_⟩;simp[wk]
  have s:((L.length:Int)<(M.length:Int))=False:=eq_false (by omega);obtain⟨_,v⟩:=S fun h=>D h.1
  refine am fun _ K=>?_;simp only[kd,aa,s];apply K
  refine aq rfl (al ?_);show bv _ _ _ _;refine cJ fun _ K=>?_;simp only[kd,u];apply K
  refine⟨⟨i+1,n,L,C,by omega,m,o,t _ hng v⟩,by grind,ak ⟨rfl,trivial⟩ ?_⟩;simp[wk]
 have r:i=l.length:=by omega
 subst r;rw[RkW.rank m o hng]at E;subst E;refine am fun _ K=>?_;simp(disch:=omega) only[kd,bV];apply K
 refine aQ rfl ?_;show bv _ _ _ _;refine am fun _ K=>?_;simp only[kd,aa];apply K
 (refine aM ⟨.inr rfl,bQ rfl ?_ rfl⟩;simp(disch:=omega) only[kd,results26])
section
section
variable {M:List (List Int)} {n:Nat} {f:FF} {C:Int}
theorem PX (g:Rf M n f) (o:n<=3) (h:0<=C) (m:C<=36): ∃S,CallC prog 31 [bV M,.raw (.int .i64 C),.raw (.int .i64 20000)] ⟨[],Kn ((dJ f n C).map Prod.snd) S 0⟩:=by
 have c:=g.n1;have t1:=rP (g.vs h (by omega)) c o m;have l1:=nZ (f:=f) (n:=n) (B:=C) (n-1) [];rw[show n-1+1=n by omega]at l1;have l:=ny n f C 20000 c (by omega) g.r (fun i j p q=>by have:=g.b i j p q;constructor<;>omega) h (by omega) (by omega) (by omega) fun _=>by omega
 rw[<- g.e,if_pos ((zy c (by omega)).2 (by omega)),OE g h (by omega)]at l;exact⟨_,l⟩
theorem abh (b:Rf M n f) (m:n<=3) (h:0<=C) (j:C<=65536) (q:(dJ f n C).length<=1000000):CallC prog 26 [bV M,bV ((dJ f n C).map Prod.snd)] ⟨[],rkT (rkF n (kp (dJ f n C).length (vL (dJ f n C))),true)⟩:=by
 have o: ∀x∈(dJ f n C).map Prod.snd,x.length=n/\ ∀c∈x,c.natAbs<32768:=fun x e=>by
  obtain⟨p,s,rfl⟩:=aeL.1 e;obtain⟨g,t,u,_⟩:=(cq b h j p).1 s;exact⟨g,T9 b.r m h j g (by omega)⟩
 have:=ZF M ((dJ f n C).map Prod.snd) (by rw[ae3];exact q) b.red (by rw[b.l];exact m) fun x e=>by rw[b.l];exact o x e
 rw[b.l,ae3,Ns]at this;exact this
end
theorem Lz (j c:Nat) (L B:List Int) (hL:I8 L) (s:j<=255) (q:c<=255):CallC prog 12 [tL j c L B] ⟨[],.raw (.bool true)⟩:=by
 have X:=oA;obtain⟨n,V⟩: ∃n,n=1+j%3:=⟨_,rfl⟩;have e:1<=n:=by omega
 have o:n<=3:=by have:=afp j (show 0<3 by omega);omega
 obtain⟨h,T,A,O⟩:=zM c L e (by omega);have cF:=uE j c L B 3 n h T hL s q (by omega) (by omega) V A O;rw[show((3:Nat):Int)=3 from rfl]at cF;have b:=sJ e (by omega) A;have P: ∀i,i<n->ent (mat n n h) i i<=36:=fun i t=>by rw[mj h t t];exact Ov e o A O i t
 generalize mat n n h=M at*
 clear A O;generalize ent M=f at*
 obtain⟨r,U⟩:=yn (by omega) P;have Y:=(Bl b o P (k:=20000) (by omega) (by omega)).1 (by have:=rP (b.vs r (by omega)) e o U;omega);have p:=Ff b (by omega) r (by omega);have R: ∀i,i<n-> ∃(v:Int) (D E:Nat) (y z:Int) (F H:List (List Int)),((grS n (dJ f n (dN f n)) []).map Prod.fst)[i]?=some v/\1<=v/\v<=36/\D<=i/\i+1<=E/\
   CallC prog 31 [bV M,.raw (.int .i64 (v-1)),.raw (.int .i64 20000)] ⟨[],Kn F y 0⟩/\CallC prog 31 [bV M,.raw (.int .i64 v),.raw (.int .i64 20000)] ⟨[],Kn H z 0⟩/\
   CallC prog 26 [bV M,bV F] ⟨[],rkT (D,true)⟩/\CallC prog 26 [bV M,bV H] ⟨[],rkT (E,true)⟩:=fun i t=>by
  have s1:=fun C=>WF b r (by omega) (i:=i) (by omega) (C:=C)
  have s2:=WD b r (by omega) (i:=i) (by omega);have hG:=vi f n (dN f n);obtain⟨x,hx,Z,_⟩:=jf (l:=grS n (dJ f n (dN f n)) []) (a:=i) (by omega);obtain⟨x1,x2,x3,x4⟩:=(cq b r (by omega) x).1 (hG.sub x hx);have W:0<kL (grS n (dJ f n (dN f n)) []) i:=by
   rw[Z,x2];exact(Eb b x1).2 (by omega)
  have m:((grS n (dJ f n (dN f n)) []).map Prod.fst)[i]?=some (kL (grS n (dJ f n (dN f n)) []) i):=by
   unfold kL;rw[aeG,aeM,aeR (by omega)];rfl
  have w:kL (grS n (dJ f n (dN f n)) []) i<=36:=by omega
  generalize kL (grS n (dJ f n (dN f n)) []) i=v at*
  obtain⟨y,I⟩:=PX b o (C:=v-1) (by omega) (by omega);obtain⟨z,J⟩:=PX b o (C:=v) (by omega) (by omega);have t1:=rP (b.vs (B:=v-1) (by omega) (by omega)) e o (by omega);have t2:=rP (b.vs (B:=v) (by omega) (by omega)) e o (by omega);have l1:=nZ (f:=f) (n:=n) (B:=v-1) (n-1) [];have l2:=nZ (f:=f) (n:=n) (B:=v) (n-1) [];rw[show n-1+1=n by omega]at l1 l2;have v1:=GH b (B:=v-1) (by omega) (by omega);have v2:=GH b (B:=v) (by omega) (by omega);have K:=abh b o (C:=v-1) (by omega) (by omega) (by omega);have N:=abh b o (C:=v) (by omega) (by omega) (by omega);exact⟨v,_,_,y,z,_,_,m,by omega,w,s1 (v-1) (by omega) (by omega),s2,I,J,K,N⟩
 have u:((grS n (dJ f n (dN f n)) []).map Prod.fst).length=n:=by rw[ae3,p]
 have Q:=b.l;generalize(grS n (dJ f n (dN f n)) []).map Prod.fst=l at*
 clear b V P r U p;have aa:((n:Int)=(n:Int))=True:=eq_true rfl;refine aB func12 rfl ntmps12 (je @tL.eq_1 (k:=fJ [⟨1,_,_,_,cF⟩] @tL.eq_1 (k:=bu [⟨1,_,_,_,Y⟩] (k:=aj (ax (k:=aq rfl (al (aj (aF (aG u Q) (k:=aq rfl (al (aj (d9 u (k:=?_))))))))))))));refine ay (G:=fp n) (fun g=>⟨(jk::jk::jk::bV M::j16 (j16 (jk::d7 l::rN n::rN g.i::j16 (j16 (j16 (j4 (j4 (jk::jk::[])))))))),Hm []⟩) (fun g=>n-g.i) ⟨0,by omega⟩ ?_ ?_
 ·refine ak trivial ?_;simp[wk]
 rintro⟨i,t⟩;simp only;by_cases hm:i<n
 ·have S:IntKind.i64.wrap ((i:Int)+1)=((i+1:Nat):Int):=by rw[aH (by omega) (by omega)];omega
  obtain⟨v,D,E,y,z,F,H,m,ad,ae,ab,ac,I,J,K,N⟩:=R i hm;have q1:((i:Int)<(D:Int))=False:=eq_false (by omega);have q2:((E:Int)<((i+1:Nat):Int))=False:=eq_false (by omega);refine ax (k:=aP rfl (aj (ao (aF m (k:=bD [⟨3,_,_,_,I⟩] (k:=bu [⟨2,_,_,_,J⟩] (k:=bu [⟨2,_,_,_,K⟩] (k:=bu [⟨2,_,_,_,N⟩] (k:=aF (aG q1 (aG S q2)) (k:=aq rfl (al (df S (k:=?_)))))))))))));refine⟨⟨i+1,by omega⟩,by simp only;omega,ak trivial ?_⟩;simp[wk]
 obtain rfl:i=n:=by omega
 refine ax (k:=aQ rfl (bu [⟨0,_,_,_,X⟩] (k:=aI @results12)))
end
section
open Go.ChangeShapes Go.WideShapes Go.ChangeAt Go.RowKit
theorem wl (Y:Os) (l:Y.Started) (H:Type) (f:TypeId×Value->H):
  ReturnsInHanded {} checked Y 12 .any (Rows.shortSpansSpec.pre6 f prog f12 Rows.shortSpansRow.domain false) (Rows.shortSpansSpec.post f prog f12 false true false false):=by
 refine returnsInHanded_of_change_sized (C:=checked) Tryz.ownKnob_ l (by kernel_rfl) func12
  (ahm (enc:=f) (C:=checked) false ⟨#[],#[.agg #[.int .u8 0,.int .u8 0,.slice none 0 0,.slice none 0 0]],[]⟩ 8 (by kernel_rfl) (by kernel_rfl) (by kernel_rfl) (by kernel_rfl)) ?_
 intro W base args R gs B g U V n _;have o: ∀(j:Nat) t v,f12.params[j]?=some t->args[j]?=some v->Value.okWide prog W .any base t v:=g;have J:(DataW.weightsEach prog (f12.params.toList++Rows.shortSpansSpec.plain.varTypes prog) (R++gs)).all (· <=reachBytes)=true:=n;have E:=U;obtain⟨p,q,w,hV,rfl,ac,ad⟩:=U;have T:DataW.TrodAll f prog W 0 (fun _=>true) true f12.params.toList args.toList R p:=w;rw[params12]at T o J;obtain⟨Z,ag,d0,aa,p0,q0,F,rfl,rfl,S,r0⟩:=trodAll_cons T;obtain⟨rfl,rfl,rfl⟩:=trodAll_nil r0;obtain rfl:args= #[Z]:=by cases args;simp_all
 obtain⟨rfl,rfl⟩:=trodVars_none hV;have X:=S;have K: ∀x∈p0,x.block<W.heap.size:=by obtain⟨m,hm⟩:=X;exact ah5 m _ _ _ hm
 obtain⟨ae,af,z,A,ah,ai,an,ap,n0,rfl,rfl,rfl,L,M,N,O⟩:=Go.Joins.open_agg4 underlying24 (by kernel_rfl) (by kernel_rfl) (o 0 24 Z rfl rfl) S;obtain⟨c,rfl,G⟩:=iQ underlying5 L;obtain⟨b,rfl,I⟩:=iQ underlying5 M;obtain⟨L0,Q,D⟩:=iP underlying22 underlying157 (by kernel_rfl) N;obtain⟨B0,P,ab⟩:=iP underlying22 underlying157 (by kernel_rfl) O;clear w g n;refine((Lz c b L0 B0 D G I).law (vs:= #[.agg #[.int .u8 (c:Int),.int .u8 (b:Int),z,A]]) rfl (NS (vs:=[.agg #[.int .u8 (c:Int),.int .u8 (b:Int),z,A]]) rfl (fun j t v r y=>by
  match j,r,y with
  |0,r,y=>simp at r y;subst r;subst y;exact Pb Q P
  |j+1,r,y=>simp at r))).mono fun e W' ⟨he,u⟩=>?_
 have s:Below W.heap.size W W':=u;subst he;exact⟨_,rfl,_,_,_,[],_,[],E,trodAll_mk1 (shut_bool underlying4 _),(trodAll_cons_mk (aiJ Tryz.laidOut_ (by kernel_rfl) (of_decide_eq_true (by kernel_rfl)) X s K) trodAll_mk0),rfl,s.frame _,fun h=>by cases h⟩
theorem shortSpans_holds:Rows.ShortSpansSaid:=
 agY 12 f12 rfl rfl rfl rfl rfl rfl rfl ⟨rfl,rfl,rfl,rfl,rfl⟩ rfl rfl rfl rfl rfl (by kernel_rfl) func12 xV
  (of_decide_eq_true (by kernel_rfl)) (by unfold Func.isWrapper;first|(rw[if_pos (by decide+kernel)];kernel_rfl)|(rw[if_neg (by decide+kernel)];exact⟨rfl,rfl⟩))
  (fun e b H c _=>wl e b H c)
#print axioms shortSpans_holds
end
end Go.Proofs.YtalmoejhjceflaaGreat
