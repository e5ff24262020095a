/-
  Part 13 of a proof (walks and plain facts).
-/
import Derived.Test.YtalmoejhjceflaaGreatR11
import Derived.Shelf.SlSortCmp.WholeK
import Derived.Ground.SlsfProg
import Derived.Test.YtalmoejhjceflaaGreatProg
set_option linter.all false
set_option maxRecDepth 100000
set_option maxHeartbeats 64000000
namespace Go.Proofs.YtalmoejhjceflaaGreat
open Go.RowKit Go.Proofs.Tryz
variable {n m:Nat} {b:Array Oper} {c e:List OObj} {f:List NItem} {g h:Code} {w:World} {j:List Nat} {l:FuncId} {o:Operand} {p:Int×List Int} {q:OObj} {r:TV} {s:NItem} {t:AS} {u:List AV} {v:Bool}
section
section
variable {P:Program} {w0 w w':World} {O X:Nat->Prop} {s s':AS} {a:Act} {ρ:Rho} {γ:Type} {L:iw γ} {g g':γ}
theorem xn {H:OH} (f:Inv w0 O X H ρ w) {d r:Nat} {o o':OObj} {cells:Array Value} (E:(H d)[r]?=some o) (G:ρ d r=some (n,m)) (hh:w.heap[n]?=some (.cells cells o.ty (0,0))) (ab:o'.ty=o.ty) (D:o'.es=o.es) (ad:o'.elems.length=o.elems.length) (Z: ∀e∈o'.elems,e.length=o'.es) (F:selfO d o') (hc: ∀(i:Nat) e (j:Nat) x,o'.elems[i]?=some e->e[j]?=some x-> ∃v:Value,cells[i*o.es+j]?=some v/\v.oneCell'=true/\x.rel ρ H (Xo X ρ H) w v):
  Inv w0 O X (aw H d ((H d).set r o')) ρ w/\ ∀x v,AV.rel ρ H (Xo X ρ H) w x v->AV.rel ρ (aw H d ((H d).set r o')) (Xo X ρ (aw H d ((H d).set r o'))) w x v:=by
 have p: ∀(x y:Nat) q,(aw H d ((H d).set r o') x)[y]?=some q->(x=d/\y=r/\q=o')\/((x≠d\/y≠r)/\(H x)[y]?=some q):=fun x y q h=>by
  by_cases J:x=d
  ·subst J;rw[aM,rO E]at h;split at h
   ·rename_i K;injection h with h;exact .inl ⟨rfl,K,h.symm⟩
   rename_i K;exact .inr ⟨.inr K,h⟩
  rw[aD J]at h;exact .inr ⟨.inl J,h⟩
 have aa: ∀(x y:Nat) q,(H x)[y]?=some q-> ∃M,(aw H d ((H d).set r o') x)[y]?=some M/\M.es=q.es/\q.elems.length<=M.elems.length/\ρ x y=ρ x y:=fun x y q h=>by
  by_cases J:x=d
  ·subst J;rw[aM,rO E];by_cases K:y=r
   ·subst K;rw[E]at h;injection h with h
    subst h;exact⟨o',if_pos rfl,D,by omega,rfl⟩
   exact⟨q,by rw[if_neg K];exact h,rfl,aaq _,rfl⟩
  exact⟨q,by rw[aD J];exact h,rfl,aaq _,rfl⟩
 have C: ∀(x y:Nat) q Q S,(aw H d ((H d).set r o') x)[y]?=some q->ρ x y=some (Q,S)->Q<w.heap.size->Xo X ρ H Q:=fun x y q Q S h1 h2 _=>by
  rcases p x y q h1 with⟨rfl,rfl,_⟩|⟨_,B⟩
  ·exact .inr ⟨_,_,o,S,E,h2⟩
  exact .inr ⟨x,y,q,S,B,h2⟩
 have mono: ∀x v,AV.rel ρ H (Xo X ρ H) w x v->AV.rel ρ (aw H d ((H d).set r o')) (Xo X ρ (aw H d ((H d).set r o'))) w x v:=fun x v h=>
  nT (b:=n) (.inr ⟨d,r,o,m,E,G⟩) ⟨rfl,rfl,rfl,aaq _,fun _ _ _=>rfl⟩ aa C h
 have t: ∀(x y:Nat) q,(aw H d ((H d).set r o') x)[y]?=some q-> ∃N,(H x)[y]?=some N:=fun x y q h=>by
  rcases p x y q h with⟨rfl,rfl,_⟩|⟨_,B⟩
  ·exact⟨o,E⟩
  exact⟨q,B⟩
 refine⟨⟨f.keep,fun x y q h=>?_,fun x y x' y' q M R T c2 h h' U e2=>?_,fun x y q R T h U=>?_,f.bar,fun x y q h=>?_⟩,mono⟩
 ·rcases p x y q h with⟨rfl,rfl,rfl⟩|⟨_,B⟩
  ·obtain⟨q1,q2,I⟩:=f.objs x y o E;rw[G]at I;obtain⟨l,A,p2,p3,p4,p5⟩:=I;rw[hh]at A;injection A with A
   injection A with A
   subst A;refine⟨Z,by omega,?_⟩;rw[G];refine⟨cells,by rw[ab];exact hh,by rw[D];exact p2,by omega,p4,fun i e j z Y hz=>?_⟩;obtain⟨u,u1,u2,u3⟩:=hc i e j z Y hz;exact⟨u,by rw[D];exact u1,u2,mono z u u3⟩
  obtain⟨q1,q2,I⟩:=f.objs x y q B;refine⟨q1,q2,?_⟩;cases hr:ρ x y with
  |none=>rw[hr]at I;exact I
  |some bc=>
   obtain⟨R,T⟩:=bc;rw[hr]at I;obtain⟨l,A,p2,p3,p4,p5⟩:=I;exact⟨l,A,p2,p3,p4,fun i e j z Y hz=>by obtain⟨u,u1,u2,u3⟩:=p5 i e j z Y hz;exact⟨u,u1,u2,mono z u u3⟩⟩
 ·obtain⟨N,V⟩:=t x y q h;obtain⟨ac,W⟩:=t x' y' M h';exact f.inj x y x' y' N ac R T c2 V W U e2
 ·obtain⟨N,V⟩:=t x y q h;exact f.old x y N R T V U
 rcases p x y q h with⟨rfl,rfl,rfl⟩|⟨_,B⟩
 ·exact F
 exact f.self x y q B
def V7 (s:AS) (d c k:Nat) (e:TypeId) (b:List AV) (f:OObj) (len:Nat):AS:=
 ⟨(s.tmps.map (aP fun x _=>x==c)).set d (.one (.ptr d 0 0 0)),aw (aw s.H d [⟨e,b.length,[b.set k (.sl d 1 0 len)]⟩,f]) c []⟩
theorem L1 {l:Oper} {e:TypeId} {d k len:Nat} (ho:l.op= .box e o) (ah:l.dst=some d) (hx:t.ev o=some (.agg u)) (hk:u[k]?=some (.sl n 0 0 len)) (hp: ∀(j:Nat) y,u[j]?=some y->j≠k->isPure y=true) (ad:t.H n=[q]) (a6: ∀e∈q.elems,∀o∈e,isPure o=true) (a3:n<=4999) (hd:t.H d=[]):AT P l (da w0 O X t) (da w0 O X (V7 t d n k e u q len)):=fun a w K Q hr hK=>by
 obtain⟨h1,a7,ρ,I,U⟩:=hr;have U:aX X ρ t a w:=U;have M:n≠d:=by rintro rfl;rw[hd]at ad;cases ad
 obtain⟨vs,hv,r1,r2⟩:=be U o _ hx;have ba:k<u.length:=(aaf.1 hk).1;refine j7 (.inl rfl) ?_;have ac:(execOp a.eval l).run P w= .ok (.value (.pointer (some ⟨w.heap.size,0,none⟩))) (w.alloc (.cells vs e)):=by
  unfold execOp;rw[ho];simp only;have:=dD (P:=P) (JH (P:=P) (w:=w) e (a.eval o));rw[hv]at this⊢;exact this
 unfold Oper.wp;rw[ac];refine hK _ _ ?_;rw[ah]
 -- the box with the slice forgotten
 have G:Ext w (w.alloc (.cells vs e)):=⟨rfl,rfl,rfl,by simp,fun j D=>acW _ _ _ D⟩;have N:(w.alloc (.cells vs e)).heap[w.heap.size]?=some (.cells vs e (0,0)):=World.alloc_heap_new _ _
 let f:Nat->Option (Nat×Nat):=fun r=>if r=0 then some (w.heap.size,1)else none
 have hf: ∀r b c,f r=some (b,c)->r=0/\b=w.heap.size/\c=1:=fun r b c h=>by
  show r=0/\_;have h:(if r=0 then some (w.heap.size,1)else none)=some (b,c):=h;split at h
  ·rename_i h0;injection h with h;injection h with h h';exact⟨h0,h.symm,h'.symm⟩
  cases h
 have J: ∀r b c,f r=some (b,c)->w.heap.size<=b:=fun r b c h=>by have:=hf r b c h;omega
 have W: ∀(j:Nat) y,(u.set k .junk)[j]?=some y->(j=k/\y= .junk)\/(j≠k/\u[j]?=some y):=fun j y h=>by
  rw[aa7]at h;split at h
  ·rename_i D;injection h with h;exact .inl ⟨D.symm,h.symm⟩
  rename_i D;exact .inr ⟨fun e=>D e.symm,h⟩
 obtain⟨a1,a9⟩:=Jw (F:=[⟨e,u.length,[u.set k .junk]⟩]) I U G hd f J (fun r r' b c c' h h'=>by have:=hf r b c h;have:=hf r' b c' h';omega) (fun r m hq=>by
  cases r with
  |succ r=>simp at hq
  |zero=>
   simp at hq;subst hq;intro e' C y E;simp at C;subst C;obtain⟨j,D⟩:=abl.1 E;rcases W j y D with⟨_,rfl⟩|⟨ap,ae⟩
   ·trivial
   exact cG (hp j y ae ap)) (fun r m hq=>by
  cases r with
  |succ r=>simp at hq
  |zero=>
   simp at hq;subst hq;refine⟨fun e' C=>by simp at C;subst C;simp,by show 0<u.length;omega,?_⟩;rw[newρ_eq,show f 0=some (w.heap.size,1)from rfl];refine⟨vs,N,by rw[r1,ach],aaq _,by decide,fun i e' j y C E=>?_⟩;cases i with
   |succ i=>simp at C
   |zero=>
    simp at C;subst C;rw[ab2,aaO];rcases W j y E with⟨rfl,rfl⟩|⟨ap,ae⟩
    ·obtain⟨B,u1,u2,_⟩:=r2 j _ hk;exact⟨B,u1,u2,trivial⟩
    obtain⟨B,u1,u2,u3⟩:=r2 j y ae;exact⟨B,u1,u2,jH I G hd J u3⟩)
 -- the row joins the box
 have al:aw t.H d [⟨e,u.length,[u.set k .junk]⟩] n=[q]:=by rw[aD M];exact ad
 obtain⟨a2,T,a8⟩:=zV a1 (a:=d) (b:=n) a3 M al a6;have av:=Bq (s:=⟨t.tmps,_⟩) a9 T;generalize a0:(fun o y=>if o=d/\y=(aw t.H d [⟨e,u.length,[u.set k .junk]⟩] d).length then newρ ρ d f n 0 else newρ ρ d f o y:Rho)=ρ2 at*
 generalize aa:aw (aw (aw t.H d [⟨e,u.length,[u.set k .junk]⟩]) d (aw t.H d [⟨e,u.length,[u.set k .junk]⟩] d++[q])) n []=H2 at*
 have V:H2 d=[⟨e,u.length,[u.set k .junk]⟩,q]:=by rw[<- aa,aD (abD M),aM,aM];rfl
 have S:ρ2 d 0=some (w.heap.size,1):=by
  rw[<- a0];simp only[aM,List.length_singleton];rw[if_neg (by omega),newρ_eq];rfl
 -- what the cell holds
 obtain⟨B,u1,u2,u3⟩:=r2 k _ hk;have ab:AV.rel ρ2 H2 (Xo X ρ2 H2) (w.alloc (.cells vs e)) (.sl d 1 0 len) B:=by
  have:=a8 0 len B (jH I G hd J u3);rw[aM]at this;exact this
 obtain⟨Z,ag⟩:=xn a2 (d:=d) (r:=0) (o:=⟨e,u.length,[u.set k .junk]⟩) (o':=⟨e,u.length,[u.set k (.sl d 1 0 len)]⟩) (by rw[V];rfl) S N rfl rfl rfl (fun e' C=>by simp at C;subst C;simp) (fun e' C y E=>by
   simp at C;subst C;obtain⟨j,D⟩:=abl.1 E;rw[aa7]at D;split at D
   ·injection D with D;subst D;rfl
   ·rename_i a4;exact cG (hp j y D (fun e=>a4 e.symm))) (fun i e' j y C E=>by
   cases i with
   |succ i=>simp at C
   |zero=>
    simp at C;subst C;rw[ab2,aaO];rw[aa7]at E;split at E
    ·rename_i D;subst D;injection E with E
     subst E;exact⟨B,u1,u2,ab⟩
    rename_i D;obtain⟨u',q1,q2,q3⟩:=r2 j y E;refine⟨u',q1,q2,?_⟩;have a5:=hp j y E (fun e=>D e.symm);have:=T y u' (jH I G hd J q3);cases y with
    |p y=>exact this
    |_=>cases a5)
 have Y:aX X ρ2 ⟨t.tmps.map (aP fun o _=>o==n),aw H2 d ((H2 d).set 0 ⟨e,u.length,[u.set k (.sl d 1 0 len)]⟩)⟩ a (w.alloc (.cells vs e)):=fun A y E=>by
  obtain⟨v,v1,v2⟩:=av A y E;exact⟨v,v1,TV.rel_map v2 ag⟩
 have an:aw H2 d ((H2 d).set 0 ⟨e,u.length,[u.set k (.sl d 1 0 len)]⟩)=aw (aw t.H d [⟨e,u.length,[u.set k (.sl d 1 0 len)]⟩,q]) n []:=by
  funext z;by_cases R:z=d
  ·subst R;rw[aM,V,aD (abD M),aM];rfl
  rw[aD R];by_cases af:z=n
  ·subst af;rw[<- aa,aM,aM]
  rw[<- aa,aD af,aD R,aD R,aD af,aD R]
 rw[an]at Z Y;have:=eJ (s:=⟨t.tmps.map (aP fun o _=>o==n),aw (aw t.H d [⟨e,u.length,[u.set k (.sl d 1 0 len)]⟩,q]) n []⟩) (d:=some d) (t:= .one (.ptr d 0 0 0)) (v:= .pointer (some ⟨w.heap.size,0,none⟩)) h1 (by simpa using a7) Z Y ⟨⟨e,u.length,[u.set k (.sl d 1 0 len)]⟩,w.heap.size,1,by
  show(aw (aw t.H d _) n [] d)[0]?=_;rw[aD (abD M),aM];rfl,S,by simp,by simp⟩
 exact this
/-! The forms that the macros use. -/
variable {Q:Exit->AS->γ->Prop}
theorem Fy (p:P.follows .mixedOrders=true) {args:List TV} (m:qt P L l args c e g g' r) (n:Nat) (j:List (ao P)) (u:List Nat) {id:Nat} (o:n<=4999) (v:Gk b=true) (h: ∀K:AS->Prop,(∀t,(Cy b (b.size-1) l args n c t/\Q .normal (Rx b (b.size-1) r n e t) g')->K t)->aT P (j.map ao.a) u (aJ b (b.toList.take (b.size-1)) 0) (some s) K):sO P L (.region id b true) Q s g:=
 Kq p m n j u o v (h _ fun _ q=>q)
theorem CS (e:P.follows .mixedOrders=true) {args:List Value} (o:sW P L n args g g' v) (c:List (ao P)) (j:List Nat) {id:Nat} (m:Gk b=true) (h: ∀K:AS->Prop,(∀f,(Yf b (b.size-1) f=some (n,args)/\Q .normal (yS b (b.size-1) v f) g')->K f)->aT P (c.map ao.a) j (aJ b (b.toList.take (b.size-1)) 0) (some s) K):sO P L (.region id b true) Q s g:=
 Fz e o c j m (h _ fun _ q=>q)
variable {QA:Exit->AS->Prop}
structure ZA (ops:Array Oper) (m d fa k:Nat) (e:TypeId) (cs:List AV) (ob:OObj) (len:Nat) (s:AS):Prop where
 x: ∃o x,ops[m]?=some o/\o.guard=none/\o.op= .box e x/\o.dst=some d/\s.ev x=some (.agg cs)
 k:cs[k]?=some (.sl fa 0 0 len)
 fam:s.H fa=[ob]
 new:s.H d=[]
theorem Kk (m d r k:Nat) {e:TypeId} {cs:List AV} {ob:OObj} {len:Nat} (c:List (ao P)) (p:List Nat) {id:Nat} (H: ∀(j:Nat) y,cs[j]?=some y->j≠k->isPure y=true) (v: ∀e∈ob.elems,∀x∈e,isPure x=true) (t:r<=4999) (F:m<b.toList.length) (h: ∀K:AS->Prop,(∀q,(ZA b m d r k e cs ob len q/\ ∀K:AS->Prop,(∀s',QA .normal s'->K s')->aT P (c.map ao.a) p (aJ b (b.toList.drop (m+1)) (m+1)) (some (V7 q d r k e cs ob len)) K)->K q)->aT P (c.map ao.a) p (aJ b (b.toList.take m) 0) (some s) K):bo P (.region id b false) QA s:=fun w0 O X a w M=>by
 obtain⟨q,z,⟨⟨o,x,G,D,u,f,I⟩,E,l,n⟩,A⟩:=aO P (c.map ao.a) p b _ 0 s _ (h _ fun _ h=>h);obtain⟨s',B,C⟩:=aO P (c.map ao.a) p b _ (m+1) _ _ (A _ fun _ h=>h);exact r9 (ks:=[]) (R1:=da w0 O X) (R2:=da w0 O X) D0.k D0.k m c p rfl F z ⟨o,G,D,L1 u f I E H l v t n⟩ B M fun N w' J=>⟨s',C,J⟩
end
end
theorem lV (a r i j:Nat) (ty:TypeId) (es:Nat) (ap:0<es) (P:(t.H a)[r]?=some q) (V:q.elems[i]?=some u) (hj:u[j]?=some (.raw (.slice none 0 0))):
  bD t ⟨t.tmps,aw t.H a ((t.H a).set r {q with elems:=q.elems.set i (u.set j (.sl a (t.H a).length 0 0))}++[⟨ty,es,[]⟩])⟩:=by
 rintro w0 O X al w ⟨h1,a1,I,B,ab⟩;have ab:aX X I t al w:=ab;generalize hn:(t.H a).length=n;have a3:r<n:=by rw[<- hn];exact(aaf.1 P).1
 generalize J:({q with elems:=q.elems.set i (u.set j (.sl a n 0 0))}:OObj)=o';have L:o'.es=q.es:=by rw[<- J]
 have aa:o'.elems.length=q.elems.length:=by rw[<- J];simp
 have ag:o'.ty=q.ty:=by rw[<- J]
 generalize ac:aw t.H a ((t.H a).set r o'++[⟨ty,es,[]⟩])=M
 let E:Rho:=fun x y=>if x=a/\y=n then none else I x y
 have Z:M a=(t.H a).set r o'++[⟨ty,es,[]⟩]:=by rw[<- ac,aM]
 have ad: ∀x,x≠a->M x=t.H x:=fun x h=>by rw[<- ac,aD h]
 have ae: ∀(x y:Nat) f,(t.H x)[y]?=some f-> ∃S,(M x)[y]?=some S/\S.es=f.es/\S.elems.length=f.elems.length/\E x y=I x y:=fun x y f h=>by
  by_cases Q:x=a
  ·subst Q;have hy:y<n:=by rw[<- hn];exact(aaf.1 h).1
   have N:E x y=I x y:=if_neg (by omega);rw[Z,aal (by simp;omega),rO P];by_cases R:y=r
   ·subst R;rw[P]at h;injection h with h
    subst h;exact⟨o',if_pos rfl,L,aa,N⟩
   exact⟨f,by rw[if_neg R];exact h,rfl,rfl,N⟩
  exact⟨f,by rw[ad x Q];exact h,rfl,rfl,if_neg fun h=>Q h.1⟩
 have G: ∀(x y:Nat) f,(M x)[y]?=some f->(x=a/\y=r/\f=o'/\E x y=I x y)\/(x=a/\y=n/\f=⟨ty,es,[]⟩/\E x y=none)\/((t.H x)[y]?=some f/\E x y=I x y):=fun x y f h=>by
  by_cases Q:x=a
  ·subst Q;rw[Z]at h;by_cases hy:y<n
   ·rw[aal (by simp;omega),rO P]at h;split at h
    ·rename_i R;injection h with h;exact .inl ⟨rfl,R,h.symm,if_neg (by omega)⟩
    exact .inr (.inr ⟨h,if_neg (by omega)⟩)
   rw[aap (by simp;omega)]at h;have ah:y-((t.H x).set r o').length=0:=by
    have:=(aaf.1 h).1;simp at this⊢;omega
   rw[ah]at h;injection h with h
   simp at ah;exact .inr (.inl ⟨rfl,by omega,h.symm,if_pos ⟨rfl,by omega⟩⟩)
  rw[ad x Q]at h;exact .inr (.inr ⟨h,if_neg fun h=>Q h.1⟩)
 have an: ∀c,Xo X E M c->Xo X I t.H c:=fun c hc=>by
  rcases hc with hc|⟨x,y,f,m,g1,Y⟩
  ·exact .inl hc
  rcases G x y f g1 with⟨rfl,rfl,rfl,A⟩|⟨_,_,_,A⟩|⟨K,A⟩
  ·exact .inr ⟨_,_,q,m,P,by rw[<- A];exact Y⟩
  ·rw[A]at Y;cases Y
  exact .inr ⟨x,y,f,m,K,by rw[<- A];exact Y⟩
 have mono: ∀x v,AV.rel I t.H (Xo X I t.H) w x v->AV.rel E M (Xo X E M) w x v:=qH fun x v hn h=>by
  cases x with
  |fn=>cases hn
  |p x=>exact bQ.weaken (fun c _ hc=>an c hc) h
  |junk=>trivial
  |sl x y a4 len=>
   obtain⟨f,g1,Y,A⟩:=h;obtain⟨S,k1,k2,k3,k4⟩:=ae x y f g1;exact⟨S,k1,by omega,by rw[k4,k2];exact A⟩
  |ptr x y i j=>
   obtain⟨f,b,c,g1,Y,A,K⟩:=h;obtain⟨S,k1,k2,k3,k4⟩:=ae x y f g1;exact⟨S,b,c,k1,by rw[k4];exact Y,by omega,by rw[k2];exact K⟩
 refine⟨h1,a1,E,⟨B.keep,fun x y f h=>?_,fun x y x' y' f S b c1 c2 h h' N e2=>?_,fun x y f b c h N=>?_,B.bar,fun x y f h=>?_⟩,fun g x Q=>?_⟩
 ·rcases G x y f h with⟨rfl,rfl,rfl,A⟩|⟨rfl,rfl,rfl,A⟩|⟨K,A⟩
  ·obtain⟨q1,q2,T⟩:=B.objs x y q P;refine⟨fun W C=>?_,by omega,?_⟩
   ·rw[<- J]at C⊢;rcases abm C with C|rfl
    ·exact q1 W C
    rw[ad2];exact q1 u (u5 V)
   rw[A];cases hr:I x y with
   |none=>
    rw[hr]at T;rw[T]at V;simp at V
   |some bc=>
    obtain⟨b,c⟩:=bc;rw[hr]at T;obtain⟨cells,p1,p2,p3,p4,p5⟩:=T;refine⟨cells,by rw[ag];exact p1,by rw[L];exact p2,by omega,p4,fun i' W j' z D F=>?_⟩;rw[L];rw[<- J]at D;simp only at D;rw[aa7]at D;split at D
    ·rename_i av;subst av;split at D
     ·injection D with D
      subst D;rw[aa7]at F;split at F
      ·rename_i a0;subst a0;split at F
       ·injection F with F
        subst F;obtain⟨l,u1,u2,u3⟩:=p5 i u j _ V hj;refine⟨l,u1,u2,⟨ty,es,[]⟩,?_,by simp,.inl ⟨if_pos ⟨rfl,rfl⟩,?_,rfl,rfl⟩⟩
        ·show(M x)[n]?=_;rw[Z,aap (by simp;omega)];simp[hn]
        exact(aV (ρ:=I) (H:=t.H) u3).1
       cases F
      obtain⟨l,u1,u2,u3⟩:=p5 i u j' z V F;exact⟨l,u1,u2,mono z l u3⟩
     cases D
    obtain⟨l,u1,u2,u3⟩:=p5 i' W j' z D F;exact⟨l,u1,u2,mono z l u3⟩
  ·exact⟨fun W C=>(by cases C),ap,(by rw[A])⟩
  obtain⟨q1,q2,T⟩:=B.objs x y f K;refine⟨q1,q2,?_⟩;rw[A];cases hr:I x y with
  |none=>rw[hr]at T;exact T
  |some bc=>
   obtain⟨b,c⟩:=bc;rw[hr]at T;obtain⟨cells,p1,p2,p3,p4,p5⟩:=T;exact⟨cells,p1,p2,p3,p4,fun i u j z V hz=>by obtain⟨l,u1,u2,u3⟩:=p5 i u j z V hz;exact⟨l,u1,u2,mono z l u3⟩⟩
 ·have U: ∀(x y:Nat) f b c,(M x)[y]?=some f->E x y=some (b,c)-> ∃q0,(t.H x)[y]?=some q0/\I x y=some (b,c):=fun x y f b c h u=>by
   rcases G x y f h with⟨rfl,rfl,rfl,A⟩|⟨_,_,_,A⟩|⟨K,A⟩
   ·exact⟨q,P,by rw[<- A];exact u⟩
   ·rw[A]at u;cases u
   exact⟨f,K,by rw[<- A];exact u⟩
  obtain⟨q0,k1,k2⟩:=U x y f b c1 h N;obtain⟨a2,k3,k4⟩:=U x' y' S b c2 h' e2;exact B.inj x y x' y' q0 a2 b c1 c2 k1 k3 k2 k4
 ·rcases G x y f h with⟨rfl,rfl,rfl,A⟩|⟨_,_,_,A⟩|⟨K,A⟩
  ·exact B.old _ _ q b c P (by rw[<- A];exact N)
  ·rw[A]at N;cases N
  exact B.old x y f b c K (by rw[<- A];exact N)
 ·rcases G x y f h with⟨rfl,rfl,rfl,A⟩|⟨rfl,rfl,rfl,A⟩|⟨K,A⟩
  ·have af:=B.self x y q P;rw[<- J];intro W C z hz;rcases abm C with C|rfl
   ·exact af W C z hz
   rcases abm hz with hz|rfl
   ·exact af u (u5 V) z hz
   rfl
  ·exact fun W C=>by cases C
  exact B.self x y f K
 obtain⟨v,v1,v2⟩:=ab g x Q;exact⟨v,v1,TV.rel_map v2 mono⟩
section
section
variable {P:Program} {γ:Type} {L:iw γ} {g g':γ} {w0 w w':World} {O X Y:Nat->Prop} {s s':AS} {a:Act} {ks:List Nat} {vf:Nat->Option Value}
def jX (L:iw γ) (ks:List Nat) (vf:Nat->Option Value) (Y:Nat->Prop) (w0:World) (O X:Nat->Prop) (g:γ) (s:AS) (a:Act) (w:World):Prop:=fD L Y w0 O X g s a w/\ ∀k∈ks,a.tmps[k]?=vf k
theorem gy:zc ks (jX L ks vf Y w0 O X g):=fun s a w ⟨h,n⟩=>by
 obtain⟨o,c,f,l,m⟩:=tn s a w h;exact⟨o,c,f,l,fun s' j w' e r=>⟨m s' j w' r,fun k b=>(e k b).trans (n k b)⟩⟩
theorem qn (u:du ks b=true) {f:AS} (h:v7 P b n (fD L Y w0 O X g t) (fD L Y w0 O X g' f)):v7 P b n (jX L ks vf Y w0 O X g t) (jX L ks vf Y w0 O X g' f):=by
 obtain⟨o,e,q,x⟩:=h;exact⟨o,e,q,fun a w K Q ⟨j,l⟩ p=>x a w K Q j fun v w' r=>p v w' ⟨r,fun k c=>(l8 u e v k c).trans (l k c)⟩⟩
def eD (P:Program) (L:iw γ) (ks:List Nat) (c:Code) (Q:Exit->AS->γ->Prop) (s:AS) (g:γ):Prop:=
 ∀(vf:Nat->Option Value) (Y:Nat->Prop) (w0:World) (O X:Nat->Prop) (a:Act) (w:World),jX L ks vf Y w0 O X g s a w->c.wp P (fun e b w'=> ∃s' g',Q e s' g'/\jX L ks vf Y w0 O X g' s' b w') a w
variable {Q:Exit->AS->γ->Prop}
theorem jX.weak (h:bD s s') (r:jX L ks vf Y w0 O X g s a w):jX L ks vf Y w0 O X g s' a w:=⟨r.1.weak h,r.2⟩
theorem eD.weak (b:bD s s') (q:eD P L ks h Q s' g):eD P L ks h Q s g:=fun _ _ _ _ _ _ _ r=>q _ _ _ _ _ _ _ (r.weak b)
theorem dY (h:Q .normal s g):eD P L ks .skip Q s g:=fun _ _ _ _ _ _ _ r=>wp_skip ⟨s,g,h,r⟩
theorem nO {id:Nat} (h:Q (.exit id) s g):eD P L ks (.exit id) Q s g:=fun _ _ _ _ _ _ _ r=>wp_exit ⟨s,g,h,r⟩
theorem mv (h:Q .ret s g):eD P L ks .ret Q s g:=fun _ _ _ _ _ _ _ r=>wp_ret ⟨s,g,h,r⟩
theorem bV {y:Code} (b:eD P L ks h (se (eD P L ks y Q) Q) s g):eD P L ks (.seq h y) Q s g:=fun _ _ _ _ _ _ _ r=>
 wp_seq (wp_mono (b _ _ _ _ _ _ _ r) fun e a w ⟨s',g',c,f⟩=>by
  cases e with
  |normal=>exact c _ _ _ _ _ _ _ f
  |_=>exact⟨s',g',c,f⟩)
theorem gd {id:Nat} (b:eD P L ks h (FS id Q) s g):eD P L ks (.block id h) Q s g:=fun _ _ _ _ _ _ _ r=>
 wp_block (wp_mono (b _ _ _ _ _ _ _ r) fun e a w ⟨s',g',c,f⟩=>by
  cases e with
  |exit j=>
   simp only[FS]at c;simp only[Exit.inBlock];split at c
   ·rename_i hid;rw[if_pos hid];exact⟨s',g',c,f⟩
   rename_i hid;rw[if_neg hid];exact⟨s',g',c,f⟩
  |_=>exact⟨s',g',c,f⟩)
theorem CT {y:Code} (l:s.ev o=some (.raw (.bool v))) (p:v=true->eD P L ks h Q s g) (m:v=false->eD P L ks y Q s g):eD P L ks (.cond o h y) Q s g:=fun _ _ _ _ _ _ _ r=>by
 obtain⟨q,n,t,f,e⟩:=id r.1.1;have j:=(aV (be e o _ l)).1;exact wp_cond_split j (fun b=>p b _ _ _ _ _ _ _ r) (fun b=>m b _ _ _ _ _ _ _ r)
theorem gV {y:Code} (e:s.ev o=some (.raw (.bool true))) (b:eD P L ks h Q s g):eD P L ks (.cond o h y) Q s g:=CT e (fun _=>b) (fun b=>by cases b)
theorem gC {y:Code} (e:s.ev o=some (.raw (.bool false))) (b:eD P L ks y Q s g):eD P L ks (.cond o h y) Q s g:=CT e (fun b=>by cases b) (fun _=>b)
theorem FC {z:Code} (e:s.ev o=some (.raw (.bool true))) (b:eD P L ks z Q s g):eD P L ks (.seq (.cond o .skip h) z) Q s g:=bV (gV e (dY b))
theorem FA {z:Code} {id:Nat} (e:s.ev o=some (.raw (.bool false))) (b:Q (.exit id) s g):eD P L ks (.seq (.cond o h (.exit id)) z) Q s g:=bV (gC e (nO b))
theorem Nb {G:Type} (St:G->AS) (Sc:G->γ) (q:G->Nat) (u:G) (F:bD s (St u)) (v:Sc u=g) (round: ∀i,eD P L ks h (se (fun s' g'=> ∃j,q j<q i/\bD s' (St j)/\Sc j=g') Q) (St i) (Sc i)):eD P L ks (.loop h) Q s g:=fun vf Y w0 O X a w r=>by
 classical
 subst v
 let p:Act->World->Nat->Prop:=fun a w n=> ∃i,q i=n/\jX L ks vf Y w0 O X (Sc i) (St i) a w
 let m:Act->World->Nat:=fun a w=>if b: ∃n,p a w n then Classical.choose (bJ b)else 0
 refine wp_loop (fun a w=> ∃n,p a w n) m ⟨_,u,rfl,r.weak F⟩ ?_;intro a w x;have I:m a w=Classical.choose (bJ x):=dif_pos x;obtain⟨E,o⟩:=abG (bJ x);rw[<- I]at E;obtain⟨i,M,J⟩:=E;refine wp_mono (round i _ _ _ _ _ _ _ J) fun e B w' ⟨s',t,C,D⟩=>?_
 cases e with
 |normal=>
  obtain⟨j,H,K,y⟩:=C;subst y;have l:=D.weak K;have f: ∃n,p B w' n:=⟨_,j,rfl,l⟩;refine⟨f,?_⟩;have A:m B w'=Classical.choose (bJ f):=dif_pos f;obtain⟨_,z⟩:=abG (bJ f);have:=z (q j) ⟨j,rfl,l⟩;rw[A];omega
 |_=>exact⟨s',t,C,D⟩
theorem ku {G:Type} (St:G->AS) (Sc:G->γ) (f:G->Nat) (b:G) {id:Nat} (j:bD s (St b)) (c:Sc b=g) (round: ∀i,eD P L ks h (se (fun s' g'=> ∃e,f e<f i/\bD s' (St e)/\Sc e=g') (FS id Q)) (St i) (Sc i)):eD P L ks (.block id (.loop h)) Q s g:=
 gd (Nb St Sc f b j c round)
theorem Iy (c:List (ao P)) (l:List Nat) {id:Nat} (t:du ks b=true) (h:aT P (c.map ao.a) l (aJ b b.toList 0) (some s) (fun s=>Q .normal s g)):eD P L ks (.region id b false) Q s g:=fun vf Y w0 O X a w r=>by
 obtain⟨s',m,p⟩:=aO P (c.map ao.a) l b b.toList 0 s _ h;obtain⟨y,Oa,Xa,x,u⟩:=gy s a w r;refine(wpIn_wide (n:=0)).1 (wpIn_region (F:=FW none) ?_);have:=rK (n:=0) (suf:=[]) (Q:=fun e f w'=> ∃s' g',Q e s' g'/\jX L ks vf Y w0 O X g' s' f w') t b.toList 0 s s' a w (fun j o q=>by simpa using q) m x (fun f w' e v=>⟨s',g,p,u _ _ _ e v⟩);rw[abd,<- aax,acF]at this;exact this
theorem nQ (e:List (ao P)) (f:List Nat) {id:Nat} (j:du ks b=true) (c: ∀K:AS->Prop,(∀s',eD P L ks h Q s' g->K s')->aT P (e.map ao.a) f (aJ b b.toList 0) (some s) K):eD P L ks (.seq (.region id b false) h) Q s g:=
 bV (Iy e f j (c _ fun _ c=>c))
theorem Nc (c:List (ao P)) (e:List Nat) {id:Nat} (f:du ks b=true) (h: ∀K:AS->Prop,(∀s',Q .normal s' g->K s')->aT P (c.map ao.a) e (aJ b b.toList 0) (some s) K):eD P L ks (.region id b false) Q s g:=
 Iy c e f (h _ fun _ h=>h)
theorem zo {id:Nat} (e:du ks b=true) (c: ∀K:AS->Prop,(∀s',eD P L ks h Q s' g->K s')->aT P [] [] (aJ b b.toList 0) (some s) K):eD P L ks (.seq (.region id b false) h) Q s g:=nQ [] [] e c
theorem zm {id:Nat} (c:du ks b=true) (h: ∀K:AS->Prop,(∀s',Q .normal s' g->K s')->aT P [] [] (aJ b b.toList 0) (some s) K):eD P L ks (.region id b false) Q s g:=Nc [] [] c h
theorem CV (m:Nat) {args:List Value} (x:sW P L n args g g' v) (c:List (ao P)) (f:List Nat) {id:Nat} (j:du ks b=true) (u:m<b.toList.length) (h: ∀K:AS->Prop,(∀e,(Yf b m e=some (n,args)/\ ∀K:AS->Prop,(∀s',Q .normal s' g'->K s')->aT P (c.map ao.a) f (aJ b (b.toList.drop (m+1)) (m+1)) (some (yS b m v e)) K)->K e)->aT P (c.map ao.a) f (aJ b (b.toList.take m) 0) (some s) K):eD P L ks (.region id b false) Q s g:=fun vf Y w0 O X a w B=>by
 obtain⟨e,o,q,p⟩:=aO P (c.map ao.a) f b _ 0 s _ (h (fun e=>Yf b m e=some (n,args)/\aT P (c.map ao.a) f (aJ b (b.toList.drop (m+1)) (m+1)) (some (yS b m v e)) (fun s=>Q .normal s g')) fun e ⟨y,z⟩=>⟨y,z _ fun _ h=>h⟩);obtain⟨s',r,t⟩:=aO P (c.map ao.a) f b _ (m+1) _ _ p;exact r9 (R1:=jX L ks vf Y w0 O X g) (R2:=jX L ks vf Y w0 O X g') gy gy m c f j u o (qn j (yq x q)) r B fun C w' A=>⟨s',g',t,A⟩
/-! Row 0 stays where it lies. -/
def nE (b:Nat) (h:List Nat):AV->AV
 | .sl x r c len=>if x=b then .junk else .sl x r c len
 | .ptr x r i j=>if x=b then(if h.contains r=true then .ptr x r i j else .junk)else .ptr x r i j
 | .fn f x e=>if x=b then .junk else .fn f x e
 |x=>x
theorem O2 (c:Nat) (l:List Nat):pm (nE c l):=fun f b j=>by
 by_cases h:b=c
 ·exact .inl (if_pos h)
 exact .inr ⟨b,j,if_neg h,rfl,fun n q e=>⟨q,e,if_neg h⟩⟩
def qW (b:Nat) (c:List Nat):TV->TV
 | .one x=> .one (nE b c x)
 | .agg e=> .agg (e.map (nE b c))
 | .fn f e=> .fn f (e.map (nE b c))
 | .tup h=> .tup (h.map fun t=>(t.1,t.2.map (nE b c)))
theorem OK {J o:Rho} {H q:OH} {Y A:Nat->Prop} {v:Value} (h:r.rel J H Y w v) (F: ∀x v,x.rel J H Y w v->AV.rel o q A w' (nE n j x) v):(qW n j r).rel o q A w' v:=by
 have e: ∀l v,bI J H Y w l v->bI o q A w' (l.map (nE n j)) v:=fun l v ⟨vs,C,D,E⟩=>by
  refine⟨vs,C,by simpa using D,fun b x M=>?_⟩;rw[u9]at M;obtain⟨y,T,rfl⟩:=u6.1 M;obtain⟨u,G,m,I⟩:=E b y T;exact⟨u,G,m,F y u I⟩
 cases r with
 |one x=>exact F x v h
 |agg l=>exact e l v h
 |fn f l=>obtain⟨u,R,S⟩:=h;exact⟨u,e l u R,S⟩
 |tup Z=>
  obtain⟨vs,C,D,E⟩:=h;refine⟨vs,C,by simpa using D,fun b c l K=>?_⟩;rw[u9]at K;obtain⟨z,U,p⟩:=u6.1 K;obtain⟨N,B⟩:=z;simp at p;obtain⟨rfl,rfl⟩:=p;obtain⟨u,G,m⟩:=E b N B U;refine⟨u,G,?_⟩;rcases m with⟨m,I⟩|⟨m,W,rfl,V⟩
  ·exact .inl ⟨m,e _ _ I⟩
  exact .inr ⟨m,_,rfl,F _ _ V⟩
structure lQ (P:Program) (L:iw γ) (rs:List Nat) (f:FuncId) (args:List TV) (F F':List OObj) (g g':γ) (r:TV):Prop where
 able:callable P f=true
 sA: ∀t∈args,selfTV 0 t
 sR:selfTV 0 r
 sF: ∀o∈F,selfO 0 o
 sF': ∀o∈F',selfO 0 o
 sh: ∀r∈rs,∀o,F[r]?=some o-> ∃o',F'[r]?=some o'/\o'.es=o.es/\o.elems.length<=o'.elems.length
 calls: ∀(X Y:Nat->Prop) (w:World) (vs:Array Value) (ρ:Rho),Inv w (fun j=>famB F ρ j\/L.B j) X (famH 0 F) ρ w->(∀j,L.B j->X j)->(∀j,(famB F ρ j\/L.B j)\/w.heap.size<=j->Y j)->L.G g Y w->vs.size=args.length->
  (∀(j:Nat) t,args[j]?=some t-> ∃v:Value,vs[j]?=some v/\t.rel ρ (famH 0 F) (Xo X ρ (famH 0 F)) w v)->
  Calls P f vs w fun e w'=> ∃v,e= .returned v/\ ∃ρ':Rho,Inv w (fun j=>famB F ρ j\/L.B j) X (famH 0 F') ρ' w'/\L.G g' Y w'/\r.rel ρ' (famH 0 F') (Xo X ρ' (famH 0 F')) w' v/\ ∀r∈rs,∀b c,ρ 0 r=some (b,c)-> ∃c',ρ' 0 r=some (b,c')
theorem lQ.toL {args:List TV} (h:lQ P L j l args c e g g' r):qt P L l args c e g g' r:=
 ⟨h.able,h.sA,h.sR,h.sF,h.sF',fun X Y w vs A m n o p q t=>(h.calls X Y w vs A m n o p q t).mono fun _ _ ⟨v,u,b,x,y,z,_⟩=>⟨v,u,b,x,y,z⟩⟩
theorem qI {H:Func} {args:List TV} (hf:P.funcs[l]?=some H) (hb:H.body=some h) (hn:callable P l=true) (M:List (Nat×Nat)) (ha: ∀p∈M,args[p.2]?=some (.one (.ptr 0 p.1 0 0))) (sA: ∀t∈args,selfTV 0 t) (sR:selfTV 0 r) (sF: ∀o∈c,selfO 0 o) (sF': ∀o∈e,selfO 0 o) (sh: ∀r∈M.map Prod.fst,∀o,c[r]?=some o-> ∃o',e[r]?=some o'/\o'.es=o.es/\o.elems.length<=o'.elems.length) (n:eD P L (M.map Prod.snd) h (fun m s k=>(m= .normal\/m= .ret)/\k=g'/\ ∃s',bD s s'/\VI P H e r s'/\ ∀p∈M,s'.tmps[p.2]?=some (.one (.ptr 0 p.1 0 0))) ⟨args++List.replicate (H.ntmps-args.length) .undef,famH 0 c⟩ g):lQ P L (M.map Prod.fst) l args c e g g' r:=by
 refine⟨hn,sA,sR,sF,sF',sh,fun X Y w vs ρ J hB hY hG ad A=>?_⟩;refine calls_of_wp hf hb ?_;have T:da w (fun j=>famB c ρ j\/L.B j) X ⟨args++List.replicate (H.ntmps-args.length) .undef,famH 0 c⟩ {tmps:=vs++Array.replicate (H.ntmps-vs.size) undef,defers:=[]} w:=by
  refine⟨rfl,by simp[ad],ρ,J,fun t x E=>?_⟩;by_cases ht:t<args.length
  ·rw[aal ht]at E;obtain⟨v,W,V⟩:=A t x E;exact⟨v,by rw[aaz (by omega)];exact W,V⟩
  rw[aap (by omega),aaY]at E;split at E
  ·rename_i ae;injection E with E
   subst E;refine⟨undef,?_,dI⟩;rw[aaM (by omega),abo,if_pos (by omega)]
  cases E
 refine wp_mono (n (fun k=>(vs++Array.replicate (H.ntmps-vs.size) undef)[k]?) Y _ _ _ _ _ ⟨⟨T,fun j hj=>⟨.inr hj,hB j hj⟩,hY,hG⟩,fun _ _=>rfl⟩) fun m a' w' ⟨s1,k,⟨aa,hk,s2,hw,⟨I,Z⟩,ab⟩,⟨K,_,_,N⟩,ac⟩=>?_
 subst hk;obtain⟨h1,af,D,y,C⟩:=hw _ _ _ _ _ K;have C:aX X D s2 a' w':=C;rw[I]at y;obtain⟨v,W,V⟩:=eA (by rw[I];exact y) C Z;rw[I]at V;have R: ∀q∈M.map Prod.fst,∀b h,ρ 0 q=some (b,h)-> ∃c',D 0 q=some (b,c'):=fun q hq b h z=>by
  obtain⟨p,hp,rfl⟩:=aai.1 hq;obtain⟨u0,hu0,o0,b0,c0,y1,y2,y3,y4⟩:=A p.2 _ (ha p hp);have S:p.2<vs.size:=(aan.1 hu0).1;obtain⟨u,U,o1,b1,c1,z1,z2,z3,G⟩:=C p.2 _ (ab p hp);rw[ac p.2 (aai.2 ⟨p,hp,rfl⟩)]at U;simp only[aaz S,hu0]at U;injection U with U
  rw[<- U,y4]at G;injection G with G
  injection G with G
  injection G with G _ _
  rw[y2]at z;injection z with z
  injection z with z _
  exact⟨c1,by rw[z2,<- G,z]⟩
 rcases aa with rfl|rfl
 ·exact⟨h1,v,W,v,rfl,D,y,N,V,R⟩
 exact⟨h1,v,W,v,rfl,D,y,N,V,R⟩
def F3 (c:Array Oper) (m:Nat) (r:TV) (b:Nat) (f:List Nat) (e:List OObj) (s:AS):AS:=AS.put ⟨s.tmps.map (qW b f),aw s.H b (e.map (renO b))⟩ (cwD c m) (renTV b r)
theorem He {args:List TV} (D:lQ P L j l args c e g g' r) (a0:n<=4999) {o:Oper} (E:pL o t=some (l,args.map (renTV n))) (S:t.H n=c.map (renO n)):
  AT P o (fD L Y w0 O X g t) (fD L Y w0 O X g' (AS.put ⟨t.tmps.map (qW n j),aw t.H n (e.map (renO n))⟩ o.dst (renTV n r))):=fun a w K Q ⟨⟨h1,ab,ρ,M,G⟩,hB,hY,hG⟩ hK=>by
 have G:aX X ρ t a w:=G;obtain⟨X1,ah,g1,g2,g3,gF,g5,g6⟩:=zK (B:=L.B) h1 ab M G hB D.sR D.sF D.sF' a0 S;refine j7 (.inl rfl) ?_;have key: ∀vs:Array Value,(execOp a.eval o).run P w= .ok (.enter l vs) w->vs.size=args.length->(∀(A:Nat) C,args[A]?=some C-> ∃v:Value,vs[A]?=some v/\(renTV n C).rel ρ t.H (Xo X ρ t.H) w v)->o.wp P a w K Q:=fun vs af a4 W=>by
  unfold Oper.wp;rw[af];simp only[Oper.upon];have ap: ∀A,(famB c ah A\/L.B A)\/w.heap.size<=A->Y A:=fun A N=>hY A (by
   rcases N with(N|N)|N
   ·obtain⟨y,o,m,k1,k2⟩:=gF A N;exact(M.old n y o A m k1 k2).1.symm
   ·exact .inl (hB A N).1
   exact .inr (aaj M.keep.size N))
  refine(D.calls X1 Y w vs ah g1 g2 ap hG a4 fun A C ht=>?_).mono ?_
  ·obtain⟨v,v1,v2⟩:=W A C ht;exact⟨v,v1,g3 C v (D.sA C (u5 ht)) v2⟩
  rintro q w1 ⟨v,rfl,a5,hi,an,a2,a1⟩;obtain⟨al,q0,q1,q2,q3⟩:=g6 v w1 a5 hi a2;have ag:aX X al ⟨t.tmps.map (qW n j),aw t.H n (e.map (renO n))⟩ a w1:=fun C x hx=>by
   simp only[u9]at hx;obtain⟨y,I,rfl⟩:=u6.1 hx;obtain⟨u,u1,u2⟩:=G C y I;refine⟨u,u1,OK u2 (gk (O2 n j) fun x v hn h=>?_)⟩;have hk:=q2 x v h;cases x with
   |fn=>cases hn
   |p x=>exact hk
   |junk=>trivial
   |sl z y a6 len=>
    simp only[nE];by_cases T:z=n
    ·rw[if_pos T];trivial
    rw[if_neg T];simpa[aN,kF,T] using hk
   |ptr z y i A=>
    simp only[nE];by_cases T:z=n
    ·rw[if_pos T];by_cases I:j.contains y=true
     ·rw[if_pos I];have I:y∈j:=by simpa using I
      subst T;obtain⟨o1,b,m,z1,z2,z3,z4⟩:=h;rw[S,u9]at z1;obtain⟨o2,z5,rfl⟩:=u6.1 z1;obtain⟨o3,z6,z7,z8⟩:=D.sh y I o2 z5;obtain⟨c',z9⟩:=a1 y I b m (by rw[g5];exact z2);refine⟨renO z o3,b,c',by rw[aM,u9,z6];rfl,by rw[q0];exact z9,?_,?_⟩
      ·have:i<o2.elems.length:=by simpa[renO] using z3
       simp only[renO,aa0];omega
      rw[z4];simp[renO,z7]
     rw[if_neg I];trivial
    rw[if_neg T];simpa[aN,kF,T] using hk
  refine hK v w1 ⟨⟨by rw[f5];exact h1,by rw[jL,fg];simpa using ab,al,by rw[fK];exact q1,oy (s:=⟨t.tmps.map (qW n j),aw t.H n (e.map (renO n))⟩) (by simpa using ab) ag q3⟩,hB,hY,an⟩
 unfold pL at E;split at E
 ·rename_i m ae;split at E
  ·rename_i f' J;obtain⟨ts,Z,q⟩:=u6.1 E;injection q with q e'
   subst q e';obtain⟨U,e2⟩:=bP Z;have aa:m.args.size=args.length:=by simpa using U.symm
   refine key _ (f9 ae J rfl D.able) (by simp[aa]) fun A C ht=>?_
   obtain⟨y,I,ac⟩:=e2 A (renTV n C) (by rw[u9,ht];rfl);refine⟨a.eval y,?_,be G y _ ac⟩;rw[aaS];have:m.args[A]?=some y:=by simpa using I
   rw[this];rfl
  ·rename_i k J;split at E
   ·rename_i f' V ts av Z;injection E with E
    injection E with q e'
    subst q;obtain⟨U,e2⟩:=bP Z;obtain⟨us,k1,k2,k3⟩:=j8 (v:=a.eval (.tmp k)) (fun t0 a3=>be G (.tmp k) t0 a3) av;have ad:args.length=m.args.size+us.size:=by
     have:=congrArg List.length e';simp[U,<- k2]at this;omega
    refine key _ (km ae J k1 D.able) (by simp[ad]) fun A C ht=>?_
    have R:(ts++V)[A]?=some (renTV n C):=by rw[e',u9,ht];rfl
    by_cases N:A<ts.length
    ·rw[aal N]at R;obtain⟨y,I,ac⟩:=e2 A _ R;refine⟨a.eval y,?_,be G y _ ac⟩;rw[aaz (by simp at U⊢;omega),aaS];have:m.args[A]?=some y:=by simpa using I
     rw[this];rfl
    rw[aap (by omega)]at R;obtain⟨v,v1,v2⟩:=k3 _ _ R;refine⟨v,?_,v2⟩;rw[aaM (by simp at U⊢;omega)];simp at U⊢;rw[<- U];exact v1
   cases E
  cases E
 cases E
theorem yp {args:List TV} (q:lQ P L j l args c e g g' r) (u:n<=4999) (h:Cy b m l args n c t):
  v7 P b m (fD L Y w0 O X g t) (fD L Y w0 O X g' (F3 b m r n j e t)):=by
 obtain⟨p,x⟩:=h;unfold cxTs at p;split at p
 ·rename_i o v;split at p
  ·rename_i y;refine⟨o,v,by simpa using y,?_⟩;unfold F3 cwD;rw[v];exact He q u p x
  cases p
 cases p
theorem iX (m:Nat) {args:List TV} (u:lQ P L j l args c e g g' r) (t:Nat) (n:List (ao P)) (p:List Nat) {id:Nat} (x:du ks b=true) (v:t<=4999) (C:m<b.toList.length) (h: ∀K:AS->Prop,(∀o,(Cy b m l args t c o/\ ∀K:AS->Prop,(∀s',Q .normal s' g'->K s')->aT P (n.map ao.a) p (aJ b (b.toList.drop (m+1)) (m+1)) (some (F3 b m r t j e o)) K)->K o)->aT P (n.map ao.a) p (aJ b (b.toList.take m) 0) (some s) K):eD P L ks (.region id b false) Q s g:=fun vf Y w0 O X a w H=>by
 obtain⟨o,y,q,z⟩:=aO P (n.map ao.a) p b _ 0 s _ (h (fun o=>Cy b m l args t c o/\aT P (n.map ao.a) p (aJ b (b.toList.drop (m+1)) (m+1)) (some (F3 b m r t j e o)) (fun s=>Q .normal s g')) fun o ⟨D,E⟩=>⟨D,E _ fun _ h=>h⟩);obtain⟨s',A,B⟩:=aO P (n.map ao.a) p b _ (m+1) _ _ z;exact r9 (R1:=jX L ks vf Y w0 O X g) (R2:=jX L ks vf Y w0 O X g') gy gy m n p x C y (qn x (yp u v q)) A H fun I w' G=>⟨s',g',B,G⟩
theorem nP (u:P.follows .mixedOrders=true) {args:List TV} (p:lQ P L j l args c e g g' r) (o:Nat) (m:List (ao P)) (v:List Nat) {id:Nat} (x:du ks b=true) (t:o<=4999) (A:Gk b=true) (h: ∀K:AS->Prop,(∀n,(Cy b (b.size-1) l args o c n/\Q .normal (F3 b (b.size-1) r o j e n) g')->K n)->aT P (m.map ao.a) v (aJ b (b.toList.take (b.size-1)) 0) (some s) K):eD P L ks (.region id b true) Q s g:=fun vf Y w0 O X a w C=>by
 obtain⟨n,y,q,z⟩:=aO P (m.map ao.a) v b _ 0 s _ (h (fun n=>Cy b (b.size-1) l args o c n/\Q .normal (F3 b (b.size-1) r o j e n) g') fun _ q=>q);exact wW (R1:=jX L ks vf Y w0 O X g) (R2:=jX L ks vf Y w0 O X g') gy u m v x A y (qn x (yp p t q)) C fun D w' B=>⟨_,g',z,B⟩
theorem mu (b r:Nat) {o o':OObj} (D:(s.H b)[r]?=some o) (M:o'.ty=o.ty) (B:o'.es=o.es) (q:o'.elems.length=o.elems.length) (f: ∀(i:Nat) l,o'.elems[i]?=some l-> ∃e,o.elems[i]?=some e/\l.length=e.length/\ ∀(j:Nat) x,l[j]?=some x->x= .junk\/e[j]?=some x):
  bD s ⟨s.tmps,aw s.H b ((s.H b).set r o')⟩:=by
 rintro w0 O X J w ⟨N,E,A,h,n⟩;have n:aX X A s J w:=n;obtain⟨q1,q2,I⟩:=id (h.objs b r o D);cases K:A b r with
 |none=>
  rw[K]at I;have l:o'.elems=[]:=acg (by rw[q,I];rfl);have T:o'=o:=by
   cases o;cases o';simp_all
  subst T;have:(s.H b).set r o'=s.H b:=by
   apply aay;intro i;rw[aa7];split
   ·rename_i C;subst C;rw[if_pos (aaf.1 D).1,D]
   rfl
  rw[this,show aw s.H b (s.H b)=s.H from funext fun x=>by unfold aw;split<;>simp_all];exact⟨N,E,A,h,n⟩
 |some S=>
  obtain⟨p,c⟩:=S;rw[K]at I;obtain⟨cells,Z,p2,p3,p4,p5⟩:=I;have old: ∀(i:Nat) l (j:Nat) x,o'.elems[i]?=some l->l[j]?=some x-> ∃v:Value,cells[i*o.es+j]?=some v/\v.oneCell'=true/\x.rel A s.H (Xo X A s.H) w v:=fun i l j x U z=>by
   obtain⟨e,F,R,m⟩:=f i l U;have G:j<e.length:=by have:=(aaf.1 z).1;omega
   obtain⟨u,u1,u2,u3⟩:=p5 i e j e[j] F (aau G);refine⟨u,u1,u2,?_⟩;rcases m j x z with rfl|m
   ·trivial
   rw[aau G]at m;injection m with m
   rw[<- m];exact u3
  obtain⟨V,W⟩:=xn h D K Z M B q (fun l y=>by
   obtain⟨i,C⟩:=abl.1 y;obtain⟨e,F,R,_⟩:=f i l C;rw[R,B];exact q1 e (u5 F)) (fun l y x z=>by
   obtain⟨i,C⟩:=abl.1 y;obtain⟨j,G⟩:=abl.1 z;obtain⟨e,F,_,m⟩:=f i l C;rcases m j x G with rfl|m
   ·trivial
   exact h.self b r o D e (u5 F) x (u5 m)) old
  exact⟨N,E,A,V,fun t x z=>by
   obtain⟨v,v1,v2⟩:=n t x z;exact⟨v,v1,TV.rel_map v2 W⟩⟩
end
end
theorem wP: ∀(x y:List Int),dm x y= -1\/dm x y=0\/dm x y=1
 |[],[]=>by simp[dm]
 |[],_::_=>by simp[dm]
 |_::_,[]=>by simp[dm]
 |a::x,b::y=>by
  have:=wP x y;unfold dm;split
  ·simp
  split
  ·simp
  exact this
theorem sZ: ∀(x y:List Int),dm y x= - dm x y
 |[],[]=>by simp[dm]
 |[],_::_=>by simp[dm]
 |_::_,[]=>by simp[dm]
 |a::x,b::y=>by
  have:=sZ x y;unfold dm;by_cases c:a<b
  ·rw[if_pos c,if_neg (by omega),if_pos c];rfl
  by_cases e:b<a
  ·rw[if_pos e,if_neg c,if_pos e]
  rw[if_neg e,if_neg c,if_neg c,if_neg e,this]
theorem mI: ∀{x y z:List Int},dm x y<0->dm y z<0->dm x z<0
 |[],[],_,h,_=>by simp[dm]at h
 |_::_,[],_,h,_=>by simp[dm]at h
 |[],_::_,[],_,h=>by simp[dm]at h
 |[],_::_,_::_,_,_=>by simp[dm]
 |_::_,_::_,[],_,h=>by simp[dm]at h
 |a::x,b::y,c::z,f,e=>by
  unfold dm at f e⊢;by_cases m:a<b
  ·by_cases j:b<c
   ·rw[if_pos (by omega)];omega
   rw[if_neg j]at e;by_cases g:c<b
   ·rw[if_pos g]at e;omega
   rw[if_pos (by omega)];omega
  rw[if_neg m]at f;by_cases g:b<a
  ·rw[if_pos g]at f;omega
  rw[if_neg g]at f;by_cases j:b<c
  ·rw[if_pos (by omega)];omega
  rw[if_neg j]at e;by_cases l:c<b
  ·rw[if_pos l]at e;omega
  rw[if_neg l]at e;rw[if_neg (by omega),if_neg (by omega)];exact mI f e
def Bx (a b:Int×List Int):Prop:=a.1<b.1\/a.1=b.1/\dm a.2 b.2<0
instance (a b:Int×List Int):Decidable (Bx a b):=inferInstanceAs (Decidable (_\/_))
def ox (x:Int×List Int):List (Int×List Int)->List (Int×List Int)
 |[]=>[x]
 |a::l=>if Bx a x then a::ox x l else if Bx x a then x::a::l else a::l
def iV (l:List (Int×List Int)):List (Int×List Int):=l.foldl (fun acc x=>ox x acc) []
theorem pY (a:Int×List Int): ¬Bx a a:=by
 unfold Bx;rw[ik];omega
theorem zU {a c:Int×List Int} (e:Bx a p) (g:Bx p c):Bx a c:=by
 unfold Bx at*
 rcases e with e|⟨e,f⟩<;>rcases g with g|⟨g,h⟩
 ·omega
 ·omega
 ·omega
 exact .inr ⟨by omega,mI f h⟩
theorem tl {a:Int×List Int} (f: ¬Bx a p) (g: ¬Bx p a):a=p:=by
 unfold Bx at*
 have h:=sZ a.2 p.2;have c:a.1=p.1:=by omega
 have e:dm a.2 p.2=0:=by omega
 exact Prod.ext c (qJ e)
def Ik (l:List (Int×List Int)):Prop:=l.Pairwise Bx
theorem IE: ∀{l m:List (Int×List Int)},Ik l->Ik m->(∀x,x∈l↔x∈m)->l=m
 |[],[],_,_,_=>rfl
 |[],b::m,_,_,h=>by have:=(h b).2 abt;simp at this
 |a::l,[],_,_,h=>by have:=(h a).1 abt;simp at this
 |a::l,b::m,r,s,h=>by
  obtain⟨f,n⟩:=acs.1 r;obtain⟨g,o⟩:=acs.1 s;have e:a=b:=by
   rcases aaV.1 ((h a).1 abt)with e|p
   ·exact e
   rcases aaV.1 ((h b).2 abt)with e|q
   ·exact e.symm
   exact absurd (zU (g a p) (f b q)) (pY b)
  subst e;rw[IE n o (fun x=>?_)];constructor
  ·intro j;rcases aaV.1 ((h x).1 (abp _ j))with e|c
   ·subst e;exact absurd (f x j) (pY x)
   exact c
  intro j;rcases aaV.1 ((h x).2 (abp _ j))with e|c
  ·subst e;exact absurd (g x j) (pY x)
  exact c
theorem xT {x y:Int×List Int}: ∀{l:List (Int×List Int)},y∈ox x l↔y=x\/y∈l
 |[]=>by simp[ox]
 |a::l=>by
  unfold ox;split
  ·rw[aaV,xT,aaV];constructor
   ·rintro(h|h|h)
    ·exact .inr (.inl h)
    ·exact .inl h
    exact .inr (.inr h)
   rintro(h|h|h)
   ·exact .inr (.inl h)
   ·exact .inl h
   exact .inr (.inr h)
  split
  ·rw[aaV]
  rename_i b c;have e:=tl c b;constructor
  ·exact .inr
  rintro(h|h)
  ·rw[h,e];exact abt
  exact h
theorem Ee {x:Int×List Int}: ∀{l:List (Int×List Int)},Ik l->Ik (ox x l)
 |[],_=>by simp[ox,Ik]
 |a::l,h=>by
  obtain⟨f,g⟩:=acs.1 h;unfold ox;split
  ·rename_i b;refine acs.2 ⟨fun y c=>?_,Ee g⟩;rcases xT.1 c with e|c
   ·rw[e];exact b
   exact f y c
  split
  ·rename_i b;refine acs.2 ⟨fun y c=>?_,h⟩;rcases aaV.1 c with e|c
   ·rw[e];exact b
   exact zU b (f y c)
  exact h
theorem xf: ∀(l acc:List (Int×List Int)),Ik acc->Ik (l.foldl (fun acc x=>ox x acc) acc)/\ ∀y,y∈l.foldl (fun acc x=>ox x acc) acc↔y∈l\/y∈acc
 |[],acc,h=>⟨h,fun y=>by simp⟩
 |x::l,acc,h=>by
  obtain⟨b,c⟩:=xf l (ox x acc) (Ee h);refine⟨b,fun y=>?_⟩;show y∈l.foldl _ (ox x acc)↔_;rw[c,xT,aaV];constructor
  ·rintro(h|h|h)
   ·exact .inl (.inr h)
   ·exact .inl (.inl h)
   exact .inr h
  rintro((h|h)|h)
  ·exact .inr (.inl h)
  ·exact .inl h
  exact .inr (.inr h)
theorem MD (l:List (Int×List Int)):Ik (iV l):=(xf l [] (by simp[Ik])).1
theorem AH {l:List (Int×List Int)}:p∈iV l↔p∈l:=by
 unfold iV;rw[(xf l [] (by simp[Ik])).2];simp
/-! Insertion. -/
def MJ (x:Int×List Int):List (Int×List Int)->Nat
 |[]=>0
 |a::l=>if Bx a x then MJ x l+1 else 0
theorem PA (x:Int×List Int): ∀l,MJ x l<=l.length
 |[]=>aaq _
 |a::l=>by unfold MJ;have:=PA x l;split<;>simp<;>omega
theorem Ef (x:Int×List Int): ∀l:List (Int×List Int),ox x l=match l[MJ x l]? with
  |some a=>if Bx x a then l.take (MJ x l)++x::l.drop (MJ x l)else l
  |none=>l.take (MJ x l)++x::l.drop (MJ x l)
 |[]=>rfl
 |a::l=>by
  unfold ox MJ;split
  ·rw[Ef x l];simp only[abJ];cases l[MJ x l]? with
   |none=>rfl
   |some b=>simp only;split<;>rfl
  simp only[acj];split<;>rfl
theorem PI (x:Int×List Int) (l:List (Int×List Int)):(ox x l).length<=l.length+1:=by
 rw[Ef];have b:(l.take (MJ x l)++x::l.drop (MJ x l)).length=l.length+1:=by
  have:=PA x l;simp;omega
 split
 ·split
  ·omega
  omega
 omega
theorem IK (b:Int) (x:List Int) (c:Int) (y:List Int):KI b x c y=if b<c then -1 else if c<b then 1 else dm x y:=by
 grind [KI,Vf,pN]
theorem IL {b c:Int} {x y:List Int}:KI b x c y<0↔b<c\/b=c/\dm x y<0:=by
 grind [IK]
theorem KJ {b c:Int} {x y:List Int}:KI b x c y=0↔b=c/\x=y:=by
 grind [IK,qJ,ik]
theorem xw {c:Type} (f:c->NItem) (x y:c):ltOf (fun a b=>jV (f a) (f b)) x y=true↔(f x).key<(f y).key\/(f x).key=(f y).key/\dm (f x).vals (f y).vals<0:=by
 grind [ltOf,jV,IL]
theorem Ze {j:Type} (f:j->NItem):Sort.SWO (ltOf fun a b=>jV (f a) (f b)) where
 irrefl x:=by
  rw[<- adN,xw,ik];omega
 trans x y z c e:=by
  rw[xw]at*
  rcases c with c|⟨c,g⟩<;>rcases e with e|⟨e,h⟩
  ·omega
  ·omega
  ·omega
  exact .inr ⟨by omega,mI g h⟩
 ntrans x y z c e:=by
  rw[<- adN,xw]at*
  grind [sZ,wP,qJ,mI]
def vU (w:World) (g N:Nat) (L:List NItem):Prop:=
 ∃f,w.rowIs g 177 N f/\L.length*2<=N/\ ∀j b,L[j]?=some b->f (j*2)= .int .i64 b.key/\f (j*2+1)=b.val
theorem vU.ext {c:World} (h:vU w n m f) (e:Ext w c):vU c n m f:=by
 obtain⟨b,j,l,o⟩:=h;exact⟨b,cH j e,l,o⟩
theorem vU.cell0 (h:vU w n m f) {j:Nat} (c:f[j]?=some s):w.cell? ⟨n,j*2,none⟩=some (.int .i64 s.key):=by
 obtain⟨b,e,o,l⟩:=h;have:=(aaf.1 c).1;rw[e.cell (by omega),(l j s c).1]
theorem vU.cell1 (h:vU w n m f) {j:Nat} (c:f[j]?=some s):w.cell? ⟨n,j*2+1,none⟩=some (.slice s.at_ s.vals.length s.cap):=by
 obtain⟨b,e,o,l⟩:=h;have:=(aaf.1 c).1;rw[e.cell (by omega),(l j s c).2];rfl
theorem vU.frozen (h:vU w n m f) (j:Nat):w.frozen? ⟨n,j,none⟩=false:=by
 obtain⟨b,c,e,l⟩:=h;exact c.frozen j
theorem vU.set (h:vU w n m f) {i:Nat} (p:i<f.length) (c:NItem):
  vU ((w.setCell ⟨n,i*2,none⟩ (.int .i64 c.key)).setCell ⟨n,i*2+1,none⟩ (.slice c.at_ c.vals.length c.cap)) n m (f.set i c):=by
 obtain⟨b,o,r,s⟩:=h;refine⟨_,(o.set (i*2) _).set (i*2+1) _,by grind,fun j q l=>?_⟩;rw[aa7]at l;by_cases e:i=j
 ·subst e;rw[if_pos rfl,if_pos p]at l;cases l;constructor
  ·simp
  rw[if_pos rfl];rfl
 grind
def dz (c:NItem):List NItem->List NItem
 |[]=>[]
 |b::l=>if xb b c then dz b l else b::dz b l
def bu:List NItem->List NItem
 |[]=>[]
 |a::l=>a::dz a l
theorem yZ {P:Program} (w:World) (t e p:TypeId) (z:Value) (h:P.underlying t=some (.slice e)) (l: ∀w,(zeroValue e).run P w= .ok z w) (q: ∀v∈z.cells,v.oneCell'=true) (x:0<z.cells.size) (b o n c:Nat) (u:0<n)
  (r: ∀j,j<n*z.cells.size->(w.cell? ⟨b,o+j,none⟩).isSome=true) (s: ∀j,j<n*z.cells.size->w.frozen? ⟨b,o+j,none⟩=false):
  (Builtin.clear_ #[t] p #[.slice (some ⟨b,o,none⟩) n c]).run P w= .ok (.tuple #[]) (w.setCells b o (Builtin.zeroCells z.cells n).toList):=by
 have g:(Builtin.zeroCells z.cells n).toList.length=n*z.cells.size:=by simp[Builtin.zeroCells]
 have f:=run_storeCells_cells (P:=P) b o (Builtin.zeroCells z.cells n).toList 0 w (by grind) (by grind) (by
  grind [Builtin.zeroCells,Nat.mod_lt])
 simp only[aa3]at f;obtain⟨m,rfl⟩: ∃m,n=m+1:=⟨n-1,by omega⟩;simp[Builtin.clear_,run_underlying h,l,f]
theorem ItemOk.gb {b:World} (h:ItemOk w n s) (c:w.grownBy b (some n)):ItemOk b n s:=⟨h.rd.gb h.ne c,h.ne,h.le⟩
theorem uf {k:Nat} {a:NItem} (e: ∀j a b,j+1<k+1->f[j+1]?=some a->f[j]?=some b->xb a b=false) (c:f[k]?=some a):bu f=f.take (k+1)++dz a (f.drop (k+1)):=by
 induction k generalizing a with
 |zero=>
  cases f with
  |nil=>simp at c
  |cons b l=>grind [bu]
 |succ k g=>
  grind [List.drop_eq_getElem_cons,dz]
theorem ug (e: ∀j a b,j+1<f.length->f[j+1]?=some a->f[j]?=some b->xb a b=false):bu f=f:=by
 cases m:f with
 |nil=>rfl
 |cons a l=>
  have c:0<f.length:=by grind
  obtain⟨b,g⟩:=getElem?_of_lt (l:=f) (k:=f.length-1) (by omega);have:=uf (k:=f.length-1) (fun j a b h=>e j a b (by omega)) g;grind [dz]
theorem zE {a:NItem} (c:f[n+1]?=some a) (e:xb a s=true):dz s (f.drop (n+1))=dz a (f.drop (n+1+1)):=by
 grind [List.drop_eq_getElem_cons,dz]
theorem KM {a:NItem} (c:f[n+1]?=some a) (e:xb a s=false):dz s (f.drop (n+1))=a::dz a (f.drop (n+1+1)):=by
 grind [List.drop_eq_getElem_cons,dz]
theorem O7 {pre:List NItem} (h:pre.length<=n):(pre++f.drop pre.length)[n]?=f[n]?:=by
 grind
theorem S9 {pre:List NItem} {a:NItem} (h:pre.length<f.length):(pre++f.drop pre.length).set pre.length a=(pre++[a])++f.drop (pre++[a]).length:=by
 grind [List.drop_eq_getElem_cons]
theorem uO (g cap:Nat) (L:List NItem) (bx sx so:Nat) (w:World) (hL:vU w g (cap*2) L) (hcap:L.length<=cap) (hlen:L.length<=4611686018427387904)
  (hok: ∀it∈L,ItemOk w g it) (h1:w.cell? ⟨bx,0,none⟩=some (.pointer (some ⟨sx,so,none⟩))) (h2:w.cell? ⟨sx,so+1,none⟩=some (.func (Fn.func 132) #[] #[])) (hbx:bx≠g) (hsx:sx≠g):
  Calls prog 199 #[.slice (some ⟨g,0,none⟩) L.length cap,.func (Fn.func 200) #[] #[.pointer (some ⟨bx,0,none⟩)]] w fun e w'=>
   e= .returned (.slice (some ⟨g,0,none⟩) (bu L).length cap)/\vU w' g (cap*2) (bu L)/\w.grownBy w' (some g):=by
 have HL:=aae hL;have HOK:=aae hok;have HB1:=aae h1;have HB2:=aae h2;have HN1:=aae hbx;have HN2:=aae hsx;clear hL hok h1 h2 hbx hsx;have hz59: ∀w,(zeroValue 177).run prog w= .ok (.agg #[.int .i64 0,.slice none 0 0]) w:=fun w=>by kernel_rfl
 have HZ:=aae hz59;clear hz59;by_cases hsz:L.length<2
 ·have HC:Hid (bu L=L):=aae (ug (fun j a b h=>by omega))
  go_enter func199,ntmps199
  go_wp2_with fail
  go_ret
  rw[HC.out];exact⟨rfl,HL.out,World.grownBy.refl _ _⟩
 have hszb:decide ((L.length:Int)<2)=false:=by simp;omega
 go_enter func199,ntmps199
 go_wp2_with fail
 clear hszb
 go_loopw [5,6,7] (fun i _ _ wr=> ∃k:Nat,1<=k/\k<=L.length/\i= .int .i64 k/\Hid (Ext w wr)/\Hid (∀j a b,j+1<k->L[j+1]?=some a->L[j]?=some b->xb a b=false)) (fun i _ _ _=>L.length-(intOf i).toNat)
 case atStart=>exact⟨1,by omega,by omega,rfl,aae (Ext.refl _),aae (fun j a b h=>by omega)⟩
 case round=>
  obtain⟨k,hk1,hk,rfl,HE,HQ⟩:=hrel;by_cases hlt:k<L.length
  ·obtain⟨a,ha⟩:=getElem?_of_lt hlt;obtain⟨b,hb⟩:=getElem?_of_lt (l:=L) (k:=k-1) (by omega);have HA:=aae ha;have HB:=aae hb;clear ha hb;have HL1:=aae (HL.out.ext (HE.out.drew));have t1:=HL1.out.cell0 HA.out;have t2:=HL1.out.cell1 HA.out;have t3:=HL1.out.cell0 HB.out;have t4:=HL1.out.cell1 HB.out;have HE1:=aae HE.out.drew;clear HE;have a1:IntKind.i64.wrap ((k:Int)-1)=(k:Int)-1:=ac8 _ (by omega);have a2:0<=(k:Int)-1:=by omega
   have a3:((k:Int)-1).toNat=k-1:=by omega
   have a4:(k:Int)-1<(L.length:Int):=by omega
   have a5:(1:Int)<=(k:Int):=by omega
   go_wp2_with fail
   refine cW 10 (by kernel_rfl) (by kernel_rfl) ?_;simp only[abS,acJ,abR,abL];generalize wr.drew=w3 at*
   iterate 10 still_step
   refine wpStill_nil ?_;have HC:=aae (ym a b bx sx so w3 g ((HOK.out a (u5 HA.out)).ext HE1.out) ((HOK.out b (u5 HB.out)).ext HE1.out) (HE1.out.cell HB1.out) (HE1.out.cell HB2.out));unfold NItem.agg at HC;clear t1 t2 t3 t4 HL1 a1 a2 a3 a4 a5;cases heq:xb a b with
   |false=>
    rw[heq]at HC;have HEQ:=aae heq;clear heq
    go_wp2_with fail
    refine HC.out.mono ?_;rintro e w' ⟨rfl,he⟩;have HE2:=aae (HE1.out.trans he);clear he
    go_wp2_with fail
    go_roundw
    case rel=>
     refine⟨k+1,by omega,by omega,by go_num,HE2,aae (fun j x y hj hx hy=>?_)⟩;by_cases e:j+1=k
     ·subst e;rw[HA.out]at hx;have hB:=HB.out;rw[show j+1-1=j from by omega,hy]at hB;cases hx;cases hB;exact HEQ.out
     exact HQ.out j x y (by omega) hx hy
    grind [intOf]
   |true=>
    rw[heq]at HC;have HEQ:=aae heq;clear heq;have HCP:Hid (bu L=L.take k++dz a (L.drop (k+1))):=aae (by
     obtain⟨m,rfl⟩: ∃m,k=m+1:=⟨k-1,by omega⟩;rw[uf (k:=m) HQ.out HB.out,zE HA.out HEQ.out])
    go_wp2_with fail
    refine HC.out.mono ?_;rintro e w' ⟨rfl,he⟩;have HE2:=aae (HE1.out.trans he);clear he HC HE1
    go_wp2_with fail
    obtain⟨wo,rfl⟩: ∃wo:World,wo=wr:=⟨_,rfl⟩
    go_loopw [7,5] (fun s i wx=> ∃(j:Nat) (pre:List NItem) (last:NItem),1<=j/\j<=L.length-k/\s= .int .i64 j/\i= .int .i64 (pre.length:Nat)/\k<=pre.length/\pre.length+1<=k+j/\Hid (L[k+j-1]?=some last)/\Hid (bu L=pre++dz last (L.drop (k+j)))/\Hid (vU wx g (cap*2) (pre++L.drop pre.length))/\Hid (w.grownBy wx (some g))) (fun s _ _=>L.length-(intOf s).toNat)
    case atStart=>
     have hlt':(L.take k).length=k:=by simp_all
     refine⟨1,L.take k,a,by omega,by omega,rfl,by rw[hlt'],by omega,by omega,aae (by rw[show k+1-1=k from by omega];exact HA.out),HCP,aae ?_,aae (fz HE2.out g)⟩;rw[hlt',List.take_append_drop];exact HL.out.ext HE2.out
    case round=>
     clear HE2 HCP HEQ HQ HA HB;obtain⟨j,pre,last,hj1,hj,rfl,rfl,hp1,hp2,HLA,HCP,HLS,HGB⟩:=hrel;by_cases hjl:j<L.length-k
     ·obtain⟨a2,ha2⟩:=getElem?_of_lt (l:=L) (k:=k+j) (by omega);have m1:(pre++L.drop pre.length)[k+j]?=some a2:=by rw[O7 (by omega)];exact ha2
      have m2:(pre++L.drop pre.length)[k+(j-1)]?=some last:=by rw[O7 (by omega),show k+(j-1)=k+j-1 from by omega];exact HLA.out
      have t1:=HLS.out.cell0 m1;have t2:=HLS.out.cell1 m1;have t3:=HLS.out.cell0 m2;have t4:=HLS.out.cell1 m2;rw[abg]at t1 t2 t3 t4;have HA2:=aae ha2;have HM1:=aae m1;clear ha2 m1 m2;have t1':wr.drew.cell? _=_:=t1;have t2':wr.drew.cell? _=_:=t2;have t3':wr.drew.cell? _=_:=t3;have t4':wr.drew.cell? _=_:=t4;have HGB1:Hid (w.grownBy wr.drew (some g)):=aae (jz HGB.out (fz ((Ext.refl _).drew) g));have HLS1:Hid (vU wr.drew g (cap*2) (pre++L.drop pre.length)):=aae (HLS.out.ext ((Ext.refl _).drew));clear t1 t2 t3 t4 HGB HLS;have hjz:(j:Int)<((L.length-k:Nat):Int):=by omega
      have a1:IntKind.i64.wrap ((j:Int)-1)=(j:Int)-1:=ac8 _ (by omega);have a2':0<=(j:Int)-1:=by omega
      have a3:((j:Int)-1).toNat=j-1:=by omega
      have a4:(j:Int)-1<((L.length-k:Nat):Int):=by omega
      have a5:(1:Int)<=(j:Int):=by omega
      go_wp2_with fail
      refine cW 10 (by kernel_rfl) (by kernel_rfl) ?_;simp only[abS,acJ,abR,abL];generalize wr.drew=w3 at*
      iterate 10 still_step
      refine wpStill_nil ?_;have HC:=aae (ym a2 last bx sx so w3 g ((HOK.out a2 (u5 HA2.out)).gb HGB1.out) ((HOK.out last (u5 HLA.out)).gb HGB1.out) (oR HGB1.out HB1.out HN1.out) (oR HGB1.out HB2.out HN2.out));unfold NItem.agg at HC;clear t3' t4' a1 a2' a3 a4 a5;cases heq:xb a2 last with
      |true=>
       rw[heq]at HC;have HEQ:=aae heq;clear heq t1' t2'
       go_wp2_with fail
       refine HC.out.mono ?_;rintro e w4 ⟨rfl,he⟩;have HGB2:=aae (jz HGB1.out (fz he g));have HLS2:=aae (HLS1.out.ext he);clear he
       go_wp2_with fail
       go_roundw
       case rel=>
        refine⟨j+1,pre,a2,by omega,by omega,by go_num,rfl,hp1,by omega,aae (by rw[show k+(j+1)-1=k+j from by omega];exact HA2.out),aae ?_,HLS2,HGB2⟩;obtain⟨m,hm⟩: ∃m,k+j=m+1:=⟨k+j-1,by omega⟩;have h1:=HA2.out;rw[hm]at h1;rw[HCP.out,hm,zE h1 HEQ.out,show k+(j+1)=m+1+1 from by omega]
       case measure=>simp[intOf];omega
      |false=>
       rw[heq]at HC;have HEQ:=aae heq;clear heq;have hpl:pre.length<L.length:=by omega
       have hpz:(pre.length:Int)<(L.length:Int):=by omega
       obtain⟨p,hp⟩: ∃p,p=pre.length:=⟨_,rfl⟩
       go_wp2_with fail
       refine HC.out.mono ?_;rintro e w4 ⟨rfl,he⟩;have HGB2:=aae (jz HGB1.out (fz he g));have HLS2:=aae (HLS1.out.ext he);have s1:=he.cell t1';have s2:=he.cell t2';have hlm:pre.length<(pre++L.drop pre.length).length:=by rw[aa6,adP];omega
       obtain⟨q,hq⟩:=getElem?_of_lt hlm;have s3:=HLS2.out.cell0 hq;have s4:=HLS2.out.cell1 hq;have s5:=HLS2.out.frozen (pre.length*2);have s6:=HLS2.out.frozen (pre.length*2+1);have HSET:=aae (HLS2.out.set hlm a2);clear he t1' t2' hq hlm HC hp
       go_wp2_with fail
       go_roundw
       case rel=>
        refine⟨j+1,pre++[a2],a2,by omega,by omega,by go_num,by simp,by simp;omega,by simp;omega,aae (by rw[show k+(j+1)-1=k+j from by omega];exact HA2.out),aae ?_,aae ?_,aae (Bj (Bj HGB2.out _ _) _ _)⟩
        ·obtain⟨m,hm⟩: ∃m,k+j=m+1:=⟨k+j-1,by omega⟩;have h1:=HA2.out;rw[hm]at h1;rw[HCP.out,hm,KM h1 HEQ.out,show k+(j+1)=m+1+1 from by omega]
         simp
        have:=HSET.out;rw[S9 hpl]at this;exact this
       case measure=>simp[intOf];omega
     have hjl':j=L.length-k:=by omega
     have HF:Hid (bu L=pre):=aae (by rw[HCP.out,show k+j=L.length from by omega,acY];simp[dz]);have hpl:pre.length<L.length:=by omega
     have hcl: ∀ty,(Builtin.clear_ #[171] ty #[.slice (some ⟨g,pre.length*2,none⟩) (L.length-pre.length) (cap-pre.length)]).run prog wr= .ok (.tuple #[]) (wr.setCells g (pre.length*2) (Builtin.zeroCells #[.int .i64 0,.slice none 0 0] (L.length-pre.length)).toList):=fun ty=>by
      obtain⟨f,f1,f2,f3⟩:=HLS.out;refine yZ wr _ 177 ty (.agg #[.int .i64 0,.slice none 0 0]) underlying171 HZ.out (by simp[Value.cells,Value.oneCell']) (by simp[Value.cells]) g _ _ _ (by omega) (fun j hj=>?_) (fun j hj=>f1.frozen _);simp[Value.cells]at hj;rw[f1.cell (by omega)];rfl
     have HCL:Hid (vU (wr.setCells g (pre.length*2) (Builtin.zeroCells #[.int .i64 0,.slice none 0 0] (L.length-pre.length)).toList) g (cap*2) pre):=aae (by
      obtain⟨f,f1,f2,f3⟩:=HLS.out;obtain⟨f',q1,q2,_⟩:=rM (Builtin.zeroCells #[.int .i64 0,.slice none 0 0] (L.length-pre.length)).toList (pre.length*2) wr f f1;refine⟨f',q1,by omega,fun i it hi=>?_⟩;have hlt:=(aaf.1 hi).1;have:=f3 i it (by simp_all[aal]);rw[q2 _ (by omega),q2 _ (by omega)];exact this)
     have HGB3:Hid (w.grownBy (wr.setCells g (pre.length*2) (Builtin.zeroCells #[.int .i64 0,.slice none 0 0] (L.length-pre.length)).toList) (some g)):=aae (um (b:=wr) _ _ HGB.out);clear hjl'
     go_wp2_with fail
     go_ret
     rw[HF.out];exact⟨rfl,HCL.out,HGB3.out⟩
  have HC:Hid (bu L=L):=aae (ug (fun j a b h=>HQ.out j a b (by omega)))
  go_wp2_with fail
  go_ret
  rw[HC.out];exact⟨rfl,HL.out.ext HE.out,fz HE.out g⟩
end Go.Proofs.YtalmoejhjceflaaGreat
namespace Go.Proofs
open Go.Shelf
def Tryz.sortK_ren:Go.Shelf.Ren:=⟨fun|6=>198|15=>127|14=>229|28=>184|29=>185|20=>244|21=>245|22=>246|23=>247|24=>248|25=>249|26=>250|27=>251|46=>254|47=>216|48=>217|49=>255|50=>256|57=>257|n=>n,fun|22=>171|24=>177|25=>170|3=>3|39=>164|0=>0|53=>165|55=>116|4=>4|46=>213|45=>212|50=>51|5=>5|9=>9|66=>250|70=>254|76=>268|77=>269|n=>n,fun|n=>n⟩
theorem Tryz.sortK:Go.Proofs.SlLaysF0.n6 prog Tryz.sortK_ren:={
 mixed:=by kernel_rfl
 f6:=⟨f198.name,by decide,func198.trans (congrArg some (by kernel_rfl))⟩
 f14:=⟨f229.name,by decide,func229.trans (congrArg some (by kernel_rfl))⟩
 f15:=func127.trans (congrArg some (by kernel_rfl))
 f20:=⟨f244.name,by decide,func244.trans (congrArg some (by kernel_rfl))⟩
 f21:=⟨f245.name,by decide,func245.trans (congrArg some (by kernel_rfl))⟩
 f22:=⟨f246.name,by decide,func246.trans (congrArg some (by kernel_rfl))⟩
 f23:=⟨f247.name,by decide,func247.trans (congrArg some (by kernel_rfl))⟩
 f24:=⟨f248.name,by decide,func248.trans (congrArg some (by kernel_rfl))⟩
 f25:=⟨f249.name,by decide,func249.trans (congrArg some (by kernel_rfl))⟩
 f26:=⟨f250.name,by decide,func250.trans (congrArg some (by kernel_rfl))⟩
 f27:=⟨f251.name,by decide,func251.trans (congrArg some (by kernel_rfl))⟩
 f28:=func184.trans (congrArg some (by kernel_rfl))
 f29:=func185.trans (congrArg some (by kernel_rfl))
 f46:=⟨f254.name,by decide,func254.trans (congrArg some (by kernel_rfl))⟩
 f47:=func216.trans (congrArg some (by kernel_rfl))
 f48:=func217.trans (congrArg some (by kernel_rfl))
 f49:=⟨f255.name,by decide,func255.trans (congrArg some (by kernel_rfl))⟩
 f50:=⟨f256.name,by decide,func256.trans (congrArg some (by kernel_rfl))⟩
 f57:=⟨f257.name,by decide,func257.trans (congrArg some (by kernel_rfl))⟩
 t0:=underlying0
 a0:=isAgg0
 z0:=sizeOf0
 v0:=zeroValue0
 t3:=underlying3
 a3:=isAgg3
 z3:=sizeOf3
 v3:=zeroValue3
 t4:=underlying4
 a4:=isAgg4
 z4:=sizeOf4
 v4:=zeroValue4
 t5:=underlying5
 a5:=isAgg5
 z5:=sizeOf5
 v5:=zeroValue5
 t9:=underlying9
 a9:=isAgg9
 z9:=sizeOf9
 v9:=zeroValue9
 t22:=underlying171
 a22:=isAgg171
 z22:=sizeOf171
 v22:=zeroValue171
 t25:=underlying170
 a25:=isAgg170
 z25:=sizeOf170
 v25:=zeroValue170
 t39:=underlying164
 a39:=isAgg164
 z39:=sizeOf164
 v39:=zeroValue164
 t45:=underlying212
 a45:=isAgg212
 z45:=sizeOf212
 v45:=zeroValue212
 t46:=underlying213
 a46:=isAgg213
 z46:=sizeOf213
 v46:=zeroValue213
 t50:=underlying51
 a50:=isAgg51
 z50:=sizeOf51
 v50:=zeroValue51
 t53:=underlying165
 a53:=isAgg165
 z53:=sizeOf165
 v53:=zeroValue165
 t55:=underlying116
 a55:=isAgg116
 z55:=sizeOf116
 v55:=zeroValue116
 t66:=underlying250
 a66:=isAgg250
 z66:=sizeOf250
 v66:=zeroValue250
 t70:=underlying254
 a70:=isAgg254
 z70:=sizeOf254
 v70:=zeroValue254
 t76:=underlying268
 a76:=isAgg268
 z76:=sizeOf268
 v76:=zeroValue268
 t77:=underlying269
 a77:=isAgg269
 z77:=sizeOf269
 v77:=zeroValue269}
end Go.Proofs
namespace Go.Proofs.YtalmoejhjceflaaGreat
open Go.RowKit Go.Proofs.Tryz
variable {n m:Nat} {b:Array Oper} {c e:List OObj} {f:List NItem} {g h:Code} {w:World} {j:List Nat} {l:FuncId} {o:Operand} {p:Int×List Int} {q:OObj} {r:TV} {s:NItem} {t:AS} {u:List AV} {v:Bool}
end Go.Proofs.YtalmoejhjceflaaGreat
