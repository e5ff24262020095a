/-
  Part 22 of a proof (walks and plain facts).
-/
import Derived.Test.YtalmoejhjceflaaGreatQ20
set_option linter.all false
set_option maxRecDepth 100000
set_option maxHeartbeats 64000000
namespace Go.Proofs.YtalmoejhjceflaaGreat
open Go.RowKit
variable {b:Array Oper} {c:OObj} {n:Nat} {e:List AV}
section
section
variable {P:Program} {w0 w w':World} {O X:Nat->Prop} {s s':AS} {a:Act} {ρ:Rho} {γ:Type} {L:jd γ} {g g':γ}
theorem zU {H:OH} (f:Inv w0 O X H ρ w) {d r:Nat} {o o':OObj} {c:Nat} {cells:Array Value} (D:(H d)[r]?=some o) (F:ρ d r=some (n,c)) (hh:w.heap[n]?=some (.cells cells o.ty (0,0))) (aa:o'.ty=o.ty) (C:o'.es=o.es) (ac:o'.elems.length=o.elems.length) (Y: ∀e∈o'.elems,e.length=o'.es) (E:selfO d o') (hc: ∀(i:Nat) e (j:Nat) x,o'.elems[i]?=some e->e[j]?=some x-> ∃v:Value,cells[i*o.es+j]?=some v/\v.oneCell'=true/\x.rel ρ H (Xo X ρ H) w v):
  Inv w0 O X (aF H d ((H d).set r o')) ρ w/\ ∀x v,AV.rel ρ H (Xo X ρ H) w x v->AV.rel ρ (aF H d ((H d).set r o')) (Xo X ρ (aF H d ((H d).set r o'))) w x v:=by
 have m: ∀(x y:Nat) q,(aF H d ((H d).set r o') x)[y]?=some q->(x=d/\y=r/\q=o')\/((x≠d\/y≠r)/\(H x)[y]?=some q):=fun x y q h=>by
  by_cases I:x=d
  ·subst I;rw[aS,ye D]at h;split at h
   ·rename_i J;injection h with h;exact .inl ⟨rfl,J,h.symm⟩
   rename_i J;exact .inr ⟨.inr J,h⟩
  rw[aM I]at h;exact .inr ⟨.inl I,h⟩
 have Z: ∀(x y:Nat) q,(H x)[y]?=some q-> ∃K,(aF H d ((H d).set r o') x)[y]?=some K/\K.es=q.es/\q.elems.length<=K.elems.length/\ρ x y=ρ x y:=fun x y q h=>by
  by_cases I:x=d
  ·subst I;rw[aS,ye D];by_cases J:y=r
   ·subst J;rw[D]at h;injection h with h
    subst h;exact⟨o',if_pos rfl,C,by omega,rfl⟩
   exact⟨q,by rw[if_neg J];exact h,rfl,acs _,rfl⟩
  exact⟨q,by rw[aM I];exact h,rfl,acs _,rfl⟩
 have B: ∀(x y:Nat) q N R,(aF H d ((H d).set r o') x)[y]?=some q->ρ x y=some (N,R)->N<w.heap.size->Xo X ρ H N:=fun x y q N R h1 h2 _=>by
  rcases m x y q h1 with⟨rfl,rfl,_⟩|⟨_,A⟩
  ·exact .inr ⟨_,_,o,R,D,h2⟩
  exact .inr ⟨x,y,q,R,A,h2⟩
 have mono: ∀x v,AV.rel ρ H (Xo X ρ H) w x v->AV.rel ρ (aF H d ((H d).set r o')) (Xo X ρ (aF H d ((H d).set r o'))) w x v:=fun x v h=>
  pU (b:=n) (.inr ⟨d,r,o,c,D,F⟩) ⟨rfl,rfl,rfl,acs _,fun _ _ _=>rfl⟩ Z B h
 have p: ∀(x y:Nat) q,(aF H d ((H d).set r o') x)[y]?=some q-> ∃M,(H x)[y]?=some M:=fun x y q h=>by
  rcases m x y q h with⟨rfl,rfl,_⟩|⟨_,A⟩
  ·exact⟨o,D⟩
  exact⟨q,A⟩
 refine⟨⟨f.keep,fun x y q h=>?_,fun x y x' y' q K Q S c2 h h' T e2=>?_,fun x y q Q S h T=>?_,f.bar,fun x y q h=>?_⟩,mono⟩
 ·rcases m x y q h with⟨rfl,rfl,rfl⟩|⟨_,A⟩
  ·obtain⟨q1,q2,G⟩:=f.objs x y o D;rw[F]at G;obtain⟨l,t,p2,p3,p4,p5⟩:=G;rw[hh]at t;injection t with t
   injection t with t
   subst t;refine⟨Y,by omega,?_⟩;rw[F];refine⟨cells,by rw[aa];exact hh,by rw[C];exact p2,by omega,p4,fun i e j z W hz=>?_⟩;obtain⟨u,u1,u2,u3⟩:=hc i e j z W hz;exact⟨u,by rw[C];exact u1,u2,mono z u u3⟩
  obtain⟨q1,q2,G⟩:=f.objs x y q A;refine⟨q1,q2,?_⟩;cases hr:ρ x y with
  |none=>rw[hr]at G;exact G
  |some bc=>
   obtain⟨Q,S⟩:=bc;rw[hr]at G;obtain⟨l,t,p2,p3,p4,p5⟩:=G;exact⟨l,t,p2,p3,p4,fun i e j z W hz=>by obtain⟨u,u1,u2,u3⟩:=p5 i e j z W hz;exact⟨u,u1,u2,mono z u u3⟩⟩
 ·obtain⟨M,U⟩:=p x y q h;obtain⟨ab,V⟩:=p x' y' K h';exact f.inj x y x' y' M ab Q S c2 U V T e2
 ·obtain⟨M,U⟩:=p x y q h;exact f.old x y M Q S U T
 rcases m x y q h with⟨rfl,rfl,rfl⟩|⟨_,A⟩
 ·exact E
 exact f.self x y q A
def Zt (s:AS) (d c k:Nat) (e:TypeId) (b:List AV) (f:OObj) (len:Nat):AS:=
 ⟨(s.tmps.map (aT fun x _=>x==c)).set d (.one (.ptr d 0 0 0)),aF (aF s.H d [⟨e,b.length,[b.set k (.sl d 1 0 len)]⟩,f]) c []⟩
theorem Pj {o:Oper} {m:TypeId} {x:Operand} {d k len:Nat} {C:AS} (ho:o.op= .box m x) (ah:o.dst=some d) (hx:C.ev x=some (.agg e)) (hk:e[k]?=some (.sl n 0 0 len)) (hp: ∀(j:Nat) y,e[j]?=some y->j≠k->isPure y=true) (ad:C.H n=[c]) (a6: ∀m∈c.elems,∀x∈m,isPure x=true) (a3:n<=4999) (hd:C.H d=[]):Du P o (dq w0 O X C) (dq w0 O X (Zt C d n k m e c len)):=fun a w K Q hr hK=>by
 obtain⟨h1,a7,ρ,G,T⟩:=hr;have T:bo X ρ C a w:=T;have J:n≠d:=by rintro rfl;rw[hd]at ad;cases ad
 obtain⟨vs,hv,r1,r2⟩:=bv T x _ hx;have ba:k<e.length:=(aci.1 hk).1;refine lB (.inl rfl) ?_;have ac:(execOp a.eval o).run P w= .ok (.value (.pointer (some ⟨w.heap.size,0,none⟩))) (w.alloc (.cells vs m)):=by
  unfold execOp;rw[ho];simp only;have:=fD (P:=P) (MM (P:=P) (w:=w) m (a.eval x));rw[hv]at this⊢;exact this
 unfold Oper.wp;rw[ac];refine hK _ _ ?_;rw[ah]
 -- the box with the slice forgotten
 have E:Ext w (w.alloc (.cells vs m)):=⟨rfl,rfl,rfl,by simp,fun j B=>ae2 _ _ _ B⟩;have M:(w.alloc (.cells vs m)).heap[w.heap.size]?=some (.cells vs m (0,0)):=World.alloc_heap_new _ _
 let f:Nat->Option (Nat×Nat):=fun r=>if r=0 then some (w.heap.size,1)else none
 have hf: ∀r b l,f r=some (b,l)->r=0/\b=w.heap.size/\l=1:=fun r b l h=>by
  show r=0/\_;have h:(if r=0 then some (w.heap.size,1)else none)=some (b,l):=h;split at h
  ·rename_i h0;injection h with h;injection h with h h';exact⟨h0,h.symm,h'.symm⟩
  cases h
 have I: ∀r b l,f r=some (b,l)->w.heap.size<=b:=fun r b l h=>by have:=hf r b l h;omega
 have V: ∀(j:Nat) y,(e.set k .junk)[j]?=some y->(j=k/\y= .junk)\/(j≠k/\e[j]?=some y):=fun j y h=>by
  rw[adj]at h;split at h
  ·rename_i B;injection h with h;exact .inl ⟨B.symm,h.symm⟩
  rename_i B;exact .inr ⟨fun m=>B m.symm,h⟩
 obtain⟨a1,a9⟩:=MC (F:=[⟨m,e.length,[e.set k .junk]⟩]) G T E hd f I (fun r r' b l c' h h'=>by have:=hf r b l h;have:=hf r' b c' h';omega) (fun r q hq=>by
  cases r with
  |succ r=>simp at hq
  |zero=>
   simp at hq;subst hq;intro e' A y D;simp at A;subst A;obtain⟨j,B⟩:=adr.1 D;rcases V j y B with⟨_,rfl⟩|⟨ap,ae⟩
   ·trivial
   exact df (hp j y ae ap)) (fun r q hq=>by
  cases r with
  |succ r=>simp at hq
  |zero=>
   simp at hq;subst hq;refine⟨fun e' A=>by simp at A;subst A;simp,by show 0<e.length;omega,?_⟩;rw[newρ_eq,show f 0=some (w.heap.size,1)from rfl];refine⟨vs,M,by rw[r1,ag8],acs _,by decide,fun i e' j y A D=>?_⟩;cases i with
   |succ i=>simp at A
   |zero=>
    simp at A;subst A;rw[aeS,acQ];rcases V j y D with⟨rfl,rfl⟩|⟨ap,ae⟩
    ·obtain⟨u,u1,u2,_⟩:=r2 j _ hk;exact⟨u,u1,u2,trivial⟩
    obtain⟨u,u1,u2,u3⟩:=r2 j y ae;exact⟨u,u1,u2,kH G E hd I u3⟩)
 -- the row joins the box
 have al:aF C.H d [⟨m,e.length,[e.set k .junk]⟩] n=[c]:=by rw[aM J];exact ad
 obtain⟨a2,S,a8⟩:=CH a1 (a:=d) (b:=n) a3 J al a6;have av:=D3 (s:=⟨C.tmps,_⟩) a9 S;generalize a0:(fun x y=>if x=d/\y=(aF C.H d [⟨m,e.length,[e.set k .junk]⟩] d).length then newρ ρ d f n 0 else newρ ρ d f x y:Rho)=ρ2 at*
 generalize aa:aF (aF (aF C.H d [⟨m,e.length,[e.set k .junk]⟩]) d (aF C.H d [⟨m,e.length,[e.set k .junk]⟩] d++[c])) n []=Z at*
 have U:Z d=[⟨m,e.length,[e.set k .junk]⟩,c]:=by rw[<- aa,aM (aed J),aS,aS];rfl
 have R:ρ2 d 0=some (w.heap.size,1):=by
  rw[<- a0];simp only[aS,List.length_singleton];rw[if_neg (by omega),newρ_eq];rfl
 -- what the cell holds
 obtain⟨u,u1,u2,u3⟩:=r2 k _ hk;have ab:AV.rel ρ2 Z (Xo X ρ2 Z) (w.alloc (.cells vs m)) (.sl d 1 0 len) u:=by
  have:=a8 0 len u (kH G E hd I u3);rw[aS]at this;exact this
 obtain⟨Y,ag⟩:=zU a2 (d:=d) (r:=0) (o:=⟨m,e.length,[e.set k .junk]⟩) (o':=⟨m,e.length,[e.set k (.sl d 1 0 len)]⟩) (by rw[U];rfl) R M rfl rfl rfl (fun e' A=>by simp at A;subst A;simp) (fun e' A y D=>by
   simp at A;subst A;obtain⟨j,B⟩:=adr.1 D;rw[adj]at B;split at B
   ·injection B with B;subst B;rfl
   ·rename_i a4;exact df (hp j y B (fun m=>a4 m.symm))) (fun i e' j y A D=>by
   cases i with
   |succ i=>simp at A
   |zero=>
    simp at A;subst A;rw[aeS,acQ];rw[adj]at D;split at D
    ·rename_i B;subst B;injection D with D
     subst D;exact⟨u,u1,u2,ab⟩
    rename_i B;obtain⟨u',q1,q2,q3⟩:=r2 j y D;refine⟨u',q1,q2,?_⟩;have a5:=hp j y D (fun m=>B m.symm);have:=S y u' (kH G E hd I q3);cases y with
    |p y=>exact this
    |_=>cases a5)
 have W:bo X ρ2 ⟨C.tmps.map (aT fun x _=>x==n),aF Z d ((Z d).set 0 ⟨m,e.length,[e.set k (.sl d 1 0 len)]⟩)⟩ a (w.alloc (.cells vs m)):=fun t y D=>by
  obtain⟨v,v1,v2⟩:=av t y D;exact⟨v,v1,TV.rel_map v2 ag⟩
 have an:aF Z d ((Z d).set 0 ⟨m,e.length,[e.set k (.sl d 1 0 len)]⟩)=aF (aF C.H d [⟨m,e.length,[e.set k (.sl d 1 0 len)]⟩,c]) n []:=by
  funext z;by_cases N:z=d
  ·subst N;rw[aS,U,aM (aed J),aS];rfl
  rw[aM N];by_cases af:z=n
  ·subst af;rw[<- aa,aS,aS]
  rw[<- aa,aM af,aM N,aM N,aM af,aM N]
 rw[an]at Y W;have:=fG (s:=⟨C.tmps.map (aT fun x _=>x==n),aF (aF C.H d [⟨m,e.length,[e.set k (.sl d 1 0 len)]⟩,c]) n []⟩) (d:=some d) (t:= .one (.ptr d 0 0 0)) (v:= .pointer (some ⟨w.heap.size,0,none⟩)) h1 (by simpa using a7) Y W ⟨⟨m,e.length,[e.set k (.sl d 1 0 len)]⟩,w.heap.size,1,by
  show(aF (aF C.H d _) n [] d)[0]?=_;rw[aM (aed J),aS];rfl,R,by simp,by simp⟩
 exact this
/-! The forms that the macros use. -/
variable {Q:Exit->AS->γ->Prop}
theorem IT (m:P.follows .mixedOrders=true) {f:FuncId} {args:List TV} {F o:List OObj} {r:TV} (e:tg P L f args F o g g' r) (j:Nat) (c:List (aq P)) (p:List Nat) {id:Nat} (l:j<=4999) (t:JH b=true) (h: ∀K:AS->Prop,(∀n,(Fo b (b.size-1) f args j F n/\Q .normal (Q2 b (b.size-1) r j o n) g')->K n)->aY P (c.map aq.a) p (aK b (b.toList.take (b.size-1)) 0) (some s) K):vN P L (.region id b true) Q s g:=
 Nz m e j c p l t (h _ fun _ q=>q)
theorem FH (f:P.follows .mixedOrders=true) {args:List Value} {c:Bool} (p:vT P L n args g g' c) (e:List (aq P)) (m:List Nat) {id:Nat} (o:JH b=true) (h: ∀K:AS->Prop,(∀j,(yTs b (b.size-1) j=some (n,args)/\Q .normal (yS b (b.size-1) c j) g')->K j)->aY P (e.map aq.a) m (aK b (b.toList.take (b.size-1)) 0) (some s) K):vN P L (.region id b true) Q s g:=
 IU f p e m o (h _ fun _ q=>q)
variable {QA:Exit->AS->Prop}
structure abP (ops:Array Oper) (m d fa k:Nat) (e:TypeId) (cs:List AV) (ob:OObj) (len:Nat) (s:AS):Prop where
 x: ∃o x,ops[m]?=some o/\o.guard=none/\o.op= .box e x/\o.dst=some d/\s.ev x=some (.agg cs)
 k:cs[k]?=some (.sl fa 0 0 len)
 fam:s.H fa=[ob]
 new:s.H d=[]
theorem Nu (m d r k:Nat) {e:TypeId} {cs:List AV} {ob:OObj} {len:Nat} (c:List (aq P)) (p:List Nat) {id:Nat} (H: ∀(j:Nat) y,cs[j]?=some y->j≠k->isPure y=true) (v: ∀e∈ob.elems,∀x∈e,isPure x=true) (t:r<=4999) (F:m<b.toList.length) (h: ∀K:AS->Prop,(∀q,(abP b m d r k e cs ob len q/\ ∀K:AS->Prop,(∀s',QA .normal s'->K s')->aY P (c.map aq.a) p (aK b (b.toList.drop (m+1)) (m+1)) (some (Zt q d r k e cs ob len)) K)->K q)->aY P (c.map aq.a) p (aK b (b.toList.take m) 0) (some s) K):bA P (.region id b false) QA s:=fun w0 O X a w M=>by
 obtain⟨q,z,⟨⟨o,x,G,D,u,f,I⟩,E,l,n⟩,A⟩:=aP P (c.map aq.a) p b _ 0 s _ (h _ fun _ h=>h);obtain⟨s',B,C⟩:=aP P (c.map aq.a) p b _ (m+1) _ _ (A _ fun _ h=>h);exact vn (ks:=[]) (R1:=dq w0 O X) (R2:=dq w0 O X) G3.k G3.k m c p rfl F z ⟨o,G,D,Pj u f I E H l v t n⟩ B M fun N w' J=>⟨s',C,J⟩
end
end
theorem ng {s:AS} (a r i j:Nat) (ty:TypeId) (es:Nat) (al:0<es) (M:(s.H a)[r]?=some c) (T:c.elems[i]?=some e) (hj:e[j]?=some (.raw (.slice none 0 0))):
  bJ s ⟨s.tmps,aF s.H a ((s.H a).set r {c with elems:=c.elems.set i (e.set j (.sl a (s.H a).length 0 0))}++[⟨ty,es,[]⟩])⟩:=by
 rintro w0 O X ag w ⟨h1,av,F,l,Z⟩;have Z:bo X F s ag w:=Z;generalize hn:(s.H a).length=n;have a1:r<n:=by rw[<- hn];exact(aci.1 M).1
 generalize G:({c with elems:=c.elems.set i (e.set j (.sl a n 0 0))}:OObj)=o';have J:o'.es=c.es:=by rw[<- G]
 have Y:o'.elems.length=c.elems.length:=by rw[<- G];simp
 have ae:o'.ty=c.ty:=by rw[<- G]
 generalize aa:aF s.H a ((s.H a).set r o'++[⟨ty,es,[]⟩])=K
 let C:Rho:=fun x y=>if x=a/\y=n then none else F x y
 have W:K a=(s.H a).set r o'++[⟨ty,es,[]⟩]:=by rw[<- aa,aS]
 have ab: ∀x,x≠a->K x=s.H x:=fun x h=>by rw[<- aa,aM h]
 have ac: ∀(x y:Nat) q,(s.H x)[y]?=some q-> ∃Q,(K x)[y]?=some Q/\Q.es=q.es/\Q.elems.length=q.elems.length/\C x y=F x y:=fun x y q h=>by
  by_cases N:x=a
  ·subst N;have hy:y<n:=by rw[<- hn];exact(aci.1 h).1
   have L:C x y=F x y:=if_neg (by omega);rw[W,acx (by simp;omega),ye M];by_cases P:y=r
   ·subst P;rw[M]at h;injection h with h
    subst h;exact⟨o',if_pos rfl,J,Y,L⟩
   exact⟨q,by rw[if_neg P];exact h,rfl,rfl,L⟩
  exact⟨q,by rw[ab x N];exact h,rfl,rfl,if_neg fun h=>N h.1⟩
 have E: ∀(x y:Nat) q,(K x)[y]?=some q->(x=a/\y=r/\q=o'/\C x y=F x y)\/(x=a/\y=n/\q=⟨ty,es,[]⟩/\C x y=none)\/((s.H x)[y]?=some q/\C x y=F x y):=fun x y q h=>by
  by_cases N:x=a
  ·subst N;rw[W]at h;by_cases hy:y<n
   ·rw[acx (by simp;omega),ye M]at h;split at h
    ·rename_i P;injection h with h;exact .inl ⟨rfl,P,h.symm,if_neg (by omega)⟩
    exact .inr (.inr ⟨h,if_neg (by omega)⟩)
   rw[acD (by simp;omega)]at h;have af:y-((s.H x).set r o').length=0:=by
    have:=(aci.1 h).1;simp at this⊢;omega
   rw[af]at h;injection h with h
   simp at af;exact .inr (.inl ⟨rfl,by omega,h.symm,if_pos ⟨rfl,by omega⟩⟩)
  rw[ab x N]at h;exact .inr (.inr ⟨h,if_neg fun h=>N h.1⟩)
 have ah: ∀f,Xo X C K f->Xo X F s.H f:=fun f hc=>by
  rcases hc with hc|⟨x,y,q,m,g1,V⟩
  ·exact .inl hc
  rcases E x y q g1 with⟨rfl,rfl,rfl,g⟩|⟨_,_,_,g⟩|⟨I,g⟩
  ·exact .inr ⟨_,_,c,m,M,by rw[<- g];exact V⟩
  ·rw[g]at V;cases V
  exact .inr ⟨x,y,q,m,I,by rw[<- g];exact V⟩
 have mono: ∀x v,AV.rel F s.H (Xo X F s.H) w x v->AV.rel C K (Xo X C K) w x v:=tM fun x v hn h=>by
  cases x with
  |fn=>cases hn
  |p x=>exact bS.weaken (fun f _ hc=>ah f hc) h
  |junk=>trivial
  |sl x y a2 len=>
   obtain⟨q,g1,V,g⟩:=h;obtain⟨Q,k1,k2,k3,k4⟩:=ac x y q g1;exact⟨Q,k1,by omega,by rw[k4,k2];exact g⟩
  |ptr x y i j=>
   obtain⟨q,b,f,g1,V,g,I⟩:=h;obtain⟨Q,k1,k2,k3,k4⟩:=ac x y q g1;exact⟨Q,b,f,k1,by rw[k4];exact V,by omega,by rw[k2];exact I⟩
 refine⟨h1,av,C,⟨l.keep,fun x y q h=>?_,fun x y x' y' q Q b c1 c2 h h' L e2=>?_,fun x y q b f h L=>?_,l.bar,fun x y q h=>?_⟩,fun t x N=>?_⟩
 ·rcases E x y q h with⟨rfl,rfl,rfl,g⟩|⟨rfl,rfl,rfl,g⟩|⟨I,g⟩
  ·obtain⟨q1,q2,R⟩:=l.objs x y c M;refine⟨fun U A=>?_,by omega,?_⟩
   ·rw[<- G]at A⊢;rcases adG A with A|rfl
    ·exact q1 U A
    rw[afA];exact q1 e (acd T)
   rw[g];cases hr:F x y with
   |none=>
    rw[hr]at R;rw[R]at T;simp at T
   |some bc=>
    obtain⟨b,f⟩:=bc;rw[hr]at R;obtain⟨cells,p1,p2,p3,p4,p5⟩:=R;refine⟨cells,by rw[ae];exact p1,by rw[J];exact p2,by omega,p4,fun i' U j' z B D=>?_⟩;rw[J];rw[<- G]at B;simp only at B;rw[adj]at B;split at B
    ·rename_i an;subst an;split at B
     ·injection B with B
      subst B;rw[adj]at D;split at D
      ·rename_i ap;subst ap;split at D
       ·injection D with D
        subst D;obtain⟨u,u1,u2,u3⟩:=p5 i e j _ T hj;refine⟨u,u1,u2,⟨ty,es,[]⟩,?_,by simp,.inl ⟨if_pos ⟨rfl,rfl⟩,?_,rfl,rfl⟩⟩
        ·show(K x)[n]?=_;rw[W,acD (by simp;omega)];simp[hn]
        exact(aZ (ρ:=F) (H:=s.H) u3).1
       cases D
      obtain⟨u,u1,u2,u3⟩:=p5 i e j' z T D;exact⟨u,u1,u2,mono z u u3⟩
     cases B
    obtain⟨u,u1,u2,u3⟩:=p5 i' U j' z B D;exact⟨u,u1,u2,mono z u u3⟩
  ·exact⟨fun U A=>(by cases A),al,(by rw[g])⟩
  obtain⟨q1,q2,R⟩:=l.objs x y q I;refine⟨q1,q2,?_⟩;rw[g];cases hr:F x y with
  |none=>rw[hr]at R;exact R
  |some bc=>
   obtain⟨b,f⟩:=bc;rw[hr]at R;obtain⟨cells,p1,p2,p3,p4,p5⟩:=R;exact⟨cells,p1,p2,p3,p4,fun i e j z T hz=>by obtain⟨u,u1,u2,u3⟩:=p5 i e j z T hz;exact⟨u,u1,u2,mono z u u3⟩⟩
 ·have S: ∀(x y:Nat) q b f,(K x)[y]?=some q->C x y=some (b,f)-> ∃q0,(s.H x)[y]?=some q0/\F x y=some (b,f):=fun x y q b f h e=>by
   rcases E x y q h with⟨rfl,rfl,rfl,g⟩|⟨_,_,_,g⟩|⟨I,g⟩
   ·exact⟨c,M,by rw[<- g];exact e⟩
   ·rw[g]at e;cases e
   exact⟨q,I,by rw[<- g];exact e⟩
  obtain⟨q0,k1,k2⟩:=S x y q b c1 h L;obtain⟨a0,k3,k4⟩:=S x' y' Q b c2 h' e2;exact l.inj x y x' y' q0 a0 b c1 c2 k1 k3 k2 k4
 ·rcases E x y q h with⟨rfl,rfl,rfl,g⟩|⟨_,_,_,g⟩|⟨I,g⟩
  ·exact l.old _ _ c b f M (by rw[<- g];exact L)
  ·rw[g]at L;cases L
  exact l.old x y q b f I (by rw[<- g];exact L)
 ·rcases E x y q h with⟨rfl,rfl,rfl,g⟩|⟨rfl,rfl,rfl,g⟩|⟨I,g⟩
  ·have ad:=l.self x y c M;rw[<- G];intro U A z hz;rcases adG A with A|rfl
   ·exact ad U A z hz
   rcases adG hz with hz|rfl
   ·exact ad e (acd T) z hz
   rfl
  ·exact fun U A=>by cases A
  exact l.self x y q I
 obtain⟨v,v1,v2⟩:=Z t x N;exact⟨v,v1,TV.rel_map v2 mono⟩
end Go.Proofs.YtalmoejhjceflaaGreat
