/-
  Part 11 of a proof (walks and plain facts).
-/
import Derived.Test.YtalmoejhjceflaaGreatP09
import Derived.RangeFuncRecord
import Derived.OrdersIn
import Derived.RangeFuncLeaves
set_option linter.all false
set_option maxRecDepth 100000
set_option maxHeartbeats 64000000
namespace Go.Proofs.YtalmoejhjceflaaGreat
open Go.RowKit
variable {b:Array Oper} {c e:List OObj} {f g:Code} {n m:Nat} {h:Exit->Act->World->Prop} {j:AS->Act->World->Prop} {l:Nat->Prop} {s:AS} {o:Operand} {p:Value} {q:Act->World->Prop} {r:List Nat} {t:TV} {u:Oper} {v:List Deferred} {w:FuncId} {x:Bool} {y:OH}
section
section
variable {ρ ρ':Rho} {H H':OH} {Y Y':Nat->Prop} {w w':World} {d:Nat}
theorem JI (o:selfTV 0 t) (h:t.rel ρ H Y w p) (k: ∀x p,bz 0 x->AV.rel ρ H Y w x p->AV.rel ρ' H' Y' w' (b6 d x) p):(renTV d t).rel ρ' H' Y' w' p:=by
 have agg: ∀b p,(∀x∈b,bz 0 x)->bC ρ H Y w b p->bC ρ' H' Y' w' (b.map (b6 d)) p:=fun b p G ⟨vs,q,r,s⟩=>by
  refine⟨vs,q,by simpa using r,fun j x D=>?_⟩;rw[XK]at D;obtain⟨y,n,rfl⟩:=XI.1 D;obtain⟨u,z,l,A⟩:=s j y n;exact⟨u,z,l,k y u (G y (XH n)) A⟩
 cases t with
 |one x=>exact k x p o h
 |agg b=>exact agg b p o h
 |fn f b=>obtain⟨u,E,F⟩:=h;exact⟨u,agg b u o E,F⟩
 |tup J=>
  obtain⟨vs,q,r,s⟩:=h;refine⟨vs,q,by simpa using r,fun j c b C=>?_⟩;rw[XK]at C;obtain⟨⟨B,g⟩,n,e⟩:=XI.1 C;simp at e;obtain⟨rfl,rfl⟩:=e;obtain⟨u,z,l⟩:=s j B g n;have m: ∀x∈g,bz 0 x:=o (B,g) (XH n);refine⟨u,z,?_⟩;rcases l with⟨l,A⟩|⟨l,x,rfl,I⟩
  ·exact .inl ⟨l,agg _ _ m A⟩
  exact .inr ⟨l,_,rfl,k x u (m x (by simp)) I⟩
theorem Fi (n:selfTV 0 t) (h:(renTV d t).rel ρ H Y w p) (k: ∀x p,bz 0 x->AV.rel ρ H Y w (b6 d x) p->AV.rel ρ' H' Y' w' x p):t.rel ρ' H' Y' w' p:=by
 have agg: ∀b p,(∀x∈b,bz 0 x)->bC ρ H Y w (b.map (b6 d)) p->bC ρ' H' Y' w' b p:=fun b p E ⟨vs,o,q,r⟩=>by
  refine⟨vs,o,by simpa using q,fun j x B=>?_⟩;obtain⟨u,s,g,z⟩:=r j (b6 d x) (by rw[XK,B];rfl);exact⟨u,s,g,k x u (E x (XH B)) z⟩
 cases t with
 |one x=>exact k x p n h
 |agg b=>exact agg b p n h
 |fn f b=>obtain⟨u,C,D⟩:=h;exact⟨u,agg b u n C,D⟩
 |tup G=>
  obtain⟨vs,o,q,r⟩:=h;refine⟨vs,o,by simpa using q,fun j c b A=>?_⟩;obtain⟨u,s,g⟩:=r j c (b.map (b6 d)) (by rw[XK,A];rfl);have m: ∀x∈b,bz 0 x:=n (c,b) (XH A);refine⟨u,s,?_⟩;rcases g with⟨g,z⟩|⟨g,x,e,F⟩
  ·exact .inl ⟨g,agg _ _ m z⟩
  cases b with
  |nil=>cases e
  |cons y l=>
   simp at e;obtain⟨rfl,rfl⟩:=e;exact .inr ⟨g,y,rfl,k y u (m y (by simp)) F⟩
end
def Vr (P:Program) (c:Func) (b:List OObj) (r:TV) (s:AS):Prop:=s.H=famH 0 b/\o7 P s c.results.toList=some r
def kF (b:Nat):Nat->Nat->Bool:=fun x _=>x==b
section
variable {P:Program} {s:AS} {a:Act} {w0 w:World} {O X:Nat->Prop}
theorem x4 {B:Nat->Prop} {U:Rho} (h1:a.defers=[]) (bR:a.tmps.size=s.tmps.length) (C:Inv w0 O X s.H U w) (b0:aT X U s a w) (hB: ∀j,B j->O j/\X j) (sR:selfTV 0 t) (av: ∀o∈c,selfO 0 o) (a1: ∀o∈e,selfO 0 o) (bq:n<=4999) (bh:s.H n=c.map (renO n)):
  ∃(X1:Nat->Prop) (T:Rho),Inv w (fun j=>famB c T j\/B j) X1 (famH 0 c) T w/\(∀j,B j->X1 j)/\
   (∀A v,selfTV 0 A->(renTV n A).rel U s.H (Xo X U s.H) w v->A.rel T (famH 0 c) (Xo X1 T (famH 0 c)) w v)/\
   (∀j,famB c T j-> ∃(y:Nat) (o:OObj) (f:Nat),(s.H n)[y]?=some o/\U n y=some (j,f))/\
   (∀y,T 0 y=U n y)/\
   ∀v w1 Z,Inv w (fun j=>famB c T j\/B j) X1 (famH 0 e) Z w1->t.rel Z (famH 0 e) (Xo X1 Z (famH 0 e)) w1 v-> ∃L:Rho,(∀y,L n y=Z 0 y)/\Inv w0 O X (aw s.H n (e.map (renO n))) L w1/\(∀x v,AV.rel U s.H (Xo X U s.H) w x v->AV.rel L (aw s.H n (e.map (renO n))) (Xo X L (aw s.H n (e.map (renO n)))) w1 (aL (kF n) x) v)/\(renTV n t).rel L (aw s.H n (e.map (renO n))) (Xo X L (aw s.H n (e.map (renO n)))) w1 v:=by
 have hF: ∀(y:Nat) D,(s.H n)[y]?=some D↔ ∃o,c[y]?=some o/\D=renO n o:=fun y D=>by
  rw[bh,XK];constructor
  ·intro h;obtain⟨o,G,I⟩:=XI.1 h;exact⟨o,G,I.symm⟩
  rintro⟨o,G,rfl⟩;rw[G];rfl
 let T:Rho:=fun x y=>if x=0 then U n y else none
 have R: ∀y,T 0 y=U n y:=fun y=>if_pos rfl
 let own:Nat->Prop:=famB c T
 have Q: ∀j,own j↔ ∃(y:Nat) (D:OObj) (J:Nat),(s.H n)[y]?=some D/\U n y=some (j,J):=fun j=>by
  constructor
  ·rintro⟨y,o,J,G,I⟩;exact⟨y,_,J,(hF y _).2 ⟨o,G,rfl⟩,by rw[<- R];exact I⟩
  rintro⟨y,D,J,G,I⟩;obtain⟨o,V,_⟩:=(hF y D).1 G;exact⟨y,o,J,V,by rw[R];exact I⟩
 have af: ∀j,own j->Xo X U s.H j:=fun j hj=>by
  obtain⟨y,D,J,G,I⟩:=(Q j).1 hj;exact .inr ⟨n,y,D,J,G,I⟩
 let X1:Nat->Prop:=fun j=>Xo X U s.H j/\ ¬own j
 have bd: ∀j,Xo X U s.H j->j<w.heap.size:=fun b hb=>by
  rcases hb with hb|⟨x,y,D,m,G,I⟩
  ·exact C.bar b hb
  exact bI (C.objs x y D G) I
 have a3:Xo X1 T (famH 0 c)=Xo X U s.H:=by
  funext j;apply propext;constructor
  ·rintro(h|⟨x,y,D,J,G,I⟩)
   ·exact h.1
   have bx:x=0:=by
    by_cases h:x=0
    ·exact h
    simp[famH,h]at G
   subst bx;exact af j ⟨y,D,J,by simpa[famH] using G,I⟩
  intro h;by_cases hj:own j
  ·obtain⟨y,D,J,G,I⟩:=hj;exact .inr ⟨0,y,D,J,by simpa[famH] using G,I⟩
  exact .inl ⟨h,hj⟩
 have f0: ∀(x y:Nat) D,(famH 0 c x)[y]?=some D->x=0/\c[y]?=some D:=fun x y D h=>by
  by_cases M:x=0
  ·subst M;exact⟨rfl,by simpa[famH] using h⟩
  simp[famH,M]at h
 have ah: ∀x v,bz 0 x->AV.rel U s.H (Xo X U s.H) w (b6 n x) v->AV.rel T (famH 0 c) (Xo X U s.H) w x v:=Ix fun x v hn W h=>by
  cases x with
  |fn=>cases hn
  |p x=>exact h
  |junk=>trivial
  |sl z y bm len=>
   have W:z=0:=W;subst W;obtain⟨D,G,I,V⟩:=h;obtain⟨o2,g4,rfl⟩:=(hF y D).1 G;exact⟨o2,by simpa[famH] using g4,by simpa[renO] using I,rW bq V (R y)⟩
  |ptr z y i j=>
   have W:z=0:=W;subst W;obtain⟨D,b',J,G,I,V,g5⟩:=h;obtain⟨o2,g4,rfl⟩:=(hF y D).1 G;exact⟨o2,b',J,by simpa[famH] using g4,by rw[R];exact I,by simpa[renO] using V,g5⟩
 have a2: ∀j,B j->X1 j:=fun j hj=>⟨.inl (hB j hj).2,fun⟨y,D,J,G,I⟩=>(C.old n y _ j J ((hF y _).2 ⟨D,G,rfl⟩) (by rw[<- R];exact I)).2 (hB j hj).2⟩
 have a5:Inv w (fun j=>own j\/B j) X1 (famH 0 c) T w:=by
  refine⟨Keep.refl w,fun x y D E=>?_,fun x y x' y' o1 o2 j c1 c2 ac K q1 q2=>?_,fun x y D j J E q=>?_,fun j hj=>bd j hj.1,fun x y D E=>?_⟩
  ·obtain⟨rfl,E⟩:=f0 x y D E;rw[a3];obtain⟨z1,z2,z3⟩:=C.objs n y (renO n D) ((hF y _).2 ⟨D,E,rfl⟩);refine⟨fun l he=>?_,z2,?_⟩
   ·have:=z1 (l.map (b6 n)) (by simp only[renO,XR];exact⟨l,he,rfl⟩);simpa[renO] using this
   rw[R];cases hr:U n y with
   |none=>rw[hr]at z3;simpa[renO] using z3
   |some bc=>
    obtain⟨b',J⟩:=bc;rw[hr]at z3;obtain⟨cells,p1,p2,p3,p4,p5⟩:=z3;refine⟨cells,p1,p2,by simpa[renO] using p3,p4,fun i l j z he Y=>?_⟩;obtain⟨u,u1,u2,u3⟩:=p5 i (l.map (b6 n)) j (b6 n z) (by simp[renO,he]) (by rw[XK,Y];rfl);exact⟨u,u1,u2,ah z u (av D (XH E) l (XH he) z (XH Y)) u3⟩
  ·obtain⟨rfl,ac⟩:=f0 x y o1 ac;obtain⟨rfl,K⟩:=f0 x' y' o2 K;exact⟨rfl,(C.inj n y n y' _ _ j c1 c2 ((hF y _).2 ⟨o1,ac,rfl⟩) ((hF y' _).2 ⟨o2,K,rfl⟩) (by rw[<- R];exact q1) (by rw[<- R];exact q2)).2⟩
  ·obtain⟨rfl,E⟩:=f0 x y D E;have K:own j:=⟨y,D,J,E,q⟩;exact⟨.inr (.inl K),fun h=>h.2 K⟩
  obtain⟨rfl,E⟩:=f0 x y D E;exact av D (XH E)
 refine⟨X1,T,a5,a2,fun A v W h=>?_,fun j hj=>(Q j).1 hj,R,?_⟩
 ·rw[a3];exact Fi W h ah
 intro v w1 Z hi bw;have f1: ∀(x y:Nat) D,(famH 0 e x)[y]?=some D->x=0/\e[y]?=some D:=fun x y D h=>by
  by_cases M:x=0
  ·subst M;exact⟨rfl,by simpa[famH] using h⟩
  simp[famH,M]at h
 generalize bb:aw s.H n (e.map (renO n))=H1;generalize a0:(fun x y=>if x=n then Z 0 y else U x y:Rho)=L;have bn:H1 n=e.map (renO n):=by rw[<- bb];exact aI
 have ab: ∀x,x≠n->H1 x=s.H x:=fun x h=>by rw[<- bb];exact ay h
 have N: ∀y,L n y=Z 0 y:=fun y=>by rw[<- a0];exact if_pos rfl
 have S: ∀x y,x≠n->L x y=U x y:=fun x y h=>by rw[<- a0];exact if_neg h
 have aa: ∀(y:Nat) D,(H1 n)[y]?=some D↔ ∃o,e[y]?=some o/\D=renO n o:=fun y D=>by
  rw[bn,XK];constructor
  ·intro h;obtain⟨o,G,I⟩:=XI.1 h;exact⟨o,G,I.symm⟩
  rintro⟨o,G,rfl⟩;rw[G];rfl
 have al: ∀j,j<w.heap.size-> ¬own j-> ¬B j->w1.heap[j]?=w.heap[j]?:=fun j hj ad bt=>hi.keep.block j hj fun h=>h.elim ad bt
 have ag: ∀(y:Nat) D j J,e[y]?=some D->Z 0 y=some (j,J)->(w.heap.size<=j\/own j)/\ ¬X1 j:=fun y D j J G I=>by
  obtain⟨k1,k2⟩:=hi.old 0 y D j J (by simpa[famH] using G) I;exact⟨k1.imp_right fun h=>h.resolve_right fun hb=>k2 (a2 j hb),k2⟩
 have bp: ∀j,j<w.heap.size->Xo X L H1 j->Xo X U s.H j:=fun j hj h=>by
  rcases h with h|⟨x,y,D,J,G,I⟩
  ·exact .inl h
  by_cases M:x=n
  ·subst M;obtain⟨o2,V,_⟩:=(aa y D).1 G;rw[N]at I;rcases(ag y o2 j J V I).1 with g|g
   ·omega
   exact af j g
  rw[ab x M]at G;rw[S x y M]at I;exact .inr ⟨x,y,D,J,G,I⟩
 have a9: ∀x v,bO (Xo X U s.H) w x v->bO (Xo X L H1) w1 x v:=fun x v h=>bO.later (fun j hj M=>bp j hj M) hi.keep.size (fun p v hp ad hc=>by
  rw[<- hc];exact iq (al p.block hp (fun h=>ad (af _ h)) fun h=>ad (.inl (hB _ h).2))) h
 -- what the call says of the family, told of number n
 have a6: ∀j,j<w1.heap.size->Xo X L H1 j->Xo X1 Z (famH 0 e) j:=fun j _ h=>by
  rcases h with h|⟨x,y,D,J,G,I⟩
  ·have hj:=C.bar j h;by_cases K:own j
   ·obtain⟨y,D,J,G,I⟩:=(Q j).1 K;exact absurd h (C.old n y D j J G I).2
   exact .inl ⟨.inl h,K⟩
  by_cases M:x=n
  ·subst M;obtain⟨o2,V,_⟩:=(aa y D).1 G;rw[N]at I;exact .inr ⟨0,y,o2,J,by simpa[famH] using V,I⟩
  rw[ab x M]at G;rw[S x y M]at I;by_cases K:own j
  ·obtain⟨y',o2,c2,k1,k2⟩:=(Q j).1 K;exact absurd (C.inj x y n y' D o2 j J c2 G k1 I k2).1 M
  exact .inl ⟨.inr ⟨x,y,D,J,G,I⟩,K⟩
 have ba: ∀x v,bz 0 x->AV.rel Z (famH 0 e) (Xo X1 Z (famH 0 e)) w1 x v->AV.rel L H1 (Xo X L H1) w1 (b6 n x) v:=jI (c:=bz 0) (fun _ _ _ _ _ _ h=>h.1) (nM n) fun x v hn W h=>by
  cases x with
  |fn=>cases hn
  |p x=>exact bO.weaken (fun j hj M=>a6 j hj M) h
  |junk=>trivial
  |sl z y bm len=>
   have W:z=0:=W;subst W;obtain⟨D,G,I,V⟩:=h;obtain⟨_,G⟩:=f1 0 y D G;exact⟨renO n D,(aa y _).2 ⟨D,G,rfl⟩,by simpa[renO] using I,rW (by decide) V (N y)⟩
  |ptr z y i j=>
   have W:z=0:=W;subst W;obtain⟨D,b',J,G,I,V,g5⟩:=h;obtain⟨_,G⟩:=f1 0 y D G;exact⟨renO n D,b',J,(aa y _).2 ⟨D,G,rfl⟩,by rw[N];exact I,by simpa[renO] using V,g5⟩
 have mono: ∀x v,AV.rel U s.H (Xo X U s.H) w x v->AV.rel L H1 (Xo X L H1) w1 (aL (kF n) x) v:=fP (oT _) fun x v hn h=>by
  cases x with
  |fn=>cases hn
  |p x=>exact a9 x v h
  |junk=>trivial
  |sl z y bm len=>
   obtain⟨D,G,I,V⟩:=h;simp only[aL];by_cases Y:z=n
   ·rw[if_pos (by simp[kF,Y])];trivial
   rw[if_neg (by simp[kF,Y])];exact⟨D,by rw[ab z Y];exact G,I,by rw[S z y Y];exact V⟩
  |ptr z y i j=>
   obtain⟨D,b',J,G,I,V,g5⟩:=h;simp only[aL];by_cases Y:z=n
   ·rw[if_pos (by simp[kF,Y])];trivial
   rw[if_neg (by simp[kF,Y])];exact⟨D,b',J,by rw[ab z Y];exact G,by rw[S z y Y];exact I,V,g5⟩
 have a8: ∀(z:Nat) x v,z≠n->bz z x->AV.rel U s.H (Xo X U s.H) w x v->AV.rel L H1 (Xo X L H1) w1 x v:=fun z x v Y W h=>by
  have:=mono x v h;cases x with
  |sl y _ _ _=>have W:y=z:=W;subst W;simpa[aL,kF,Y] using this
  |ptr y _ _ _=>have W:y=z:=W;subst W;simpa[aL,kF,Y] using this
  |fn _ y _=>have W:y=z:=W.1;subst W;simpa[aL,kF,Y] using this
  |p x=>exact this
  |junk=>trivial
 have a4:Inv w0 O X H1 L w1:=by
  refine⟨⟨hi.keep.os.trans C.keep.os,hi.keep.tape.trans C.keep.tape,hi.keep.output.trans C.keep.output,XQ C.keep.size hi.keep.size,fun j hj ad=>?_⟩,fun x y D E=>?_,fun x y x' y' o1 o2 j c1 c2 ac K q1 q2=>?_,fun x y D j J E q=>?_,fun j hj=>XZ (C.bar j hj) hi.keep.size,fun x y D E=>?_⟩
  ·rw[al j (XZ hj C.keep.size) (fun h=>?_) (fun h=>ad (hB j h).1)]
   ·exact C.keep.block j hj ad
   obtain⟨y,D,J,G,I⟩:=(Q j).1 h;rcases(C.old n y D j J G I).1 with g|g
   ·omega
   exact ad g
  ·by_cases M:x=n
   ·subst M;obtain⟨o2,V,rfl⟩:=(aa y D).1 E;obtain⟨z1,z2,z3⟩:=hi.objs 0 y o2 (by simpa[famH] using V);refine⟨fun l he=>?_,z2,?_⟩
    ·simp only[renO,XR]at he;obtain⟨e',ap,rfl⟩:=he;rw[YB];exact z1 e' ap
    rw[N];cases hr:Z 0 y with
    |none=>rw[hr]at z3;simp[renO,z3]
    |some bc=>
     obtain⟨b',J⟩:=bc;rw[hr]at z3;obtain⟨cells,p1,p2,p3,p4,p5⟩:=z3;refine⟨cells,p1,p2,by simpa[renO] using p3,p4,fun i l j z he Y=>?_⟩;simp only[renO,XK]at he;obtain⟨e',ap,rfl⟩:=XI.1 he;rw[XK]at Y;obtain⟨z',a7,rfl⟩:=XI.1 Y;obtain⟨u,u1,u2,u3⟩:=p5 i e' j z' ap a7;exact⟨u,u1,u2,ba z' u (a1 o2 (XH V) e' (XH ap) z' (XH a7)) u3⟩
   rw[ab x M]at E;have bl:=C.objs x y D E;obtain⟨z1,z2,z3⟩:=id bl;refine⟨z1,z2,?_⟩;rw[S x y M];cases hr:U x y with
   |none=>rw[hr]at z3;exact z3
   |some bc=>
    obtain⟨b',J⟩:=bc;rw[hr]at z3;obtain⟨cells,p1,p2,p3,p4,p5⟩:=z3;refine⟨cells,?_,p2,p3,p4,fun i l j z he Y=>?_⟩
    ·rw[al b' (bI bl hr) (fun h=>?_) (fun h=>(C.old x y D b' J E hr).2 (hB b' h).2)]
     ·exact p1
     obtain⟨y',o2,c2,k1,k2⟩:=(Q b').1 h;exact M (C.inj x y n y' D o2 b' J c2 E k1 hr k2).1
    obtain⟨u,u1,u2,u3⟩:=p5 i l j z he Y;exact⟨u,u1,u2,a8 x z u M (C.self x y D E l (XH he) z (XH Y)) u3⟩
  ·by_cases M:x=n
   ·subst M;obtain⟨o3,V,_⟩:=(aa y o1).1 ac;rw[N]at q1;by_cases ae:x'=x
    ·subst ae;obtain⟨o4,g4,_⟩:=(aa y' o2).1 K;rw[N]at q2;exact⟨rfl,(hi.inj 0 y 0 y' o3 o4 j c1 c2 (by simpa[famH] using V) (by simpa[famH] using g4) q1 q2).2⟩
    rw[ab x' ae]at K;rw[S x' y' ae]at q2;exfalso;have br:=bI (C.objs x' y' o2 K) q2;rcases(ag y o3 j c1 V q1).1 with g|g
    ·omega
    obtain⟨y3,o5,c5,k1,k2⟩:=(Q j).1 g;exact ae (C.inj x' y' x y3 o2 o5 j c2 c5 K k1 q2 k2).1
   rw[ab x M]at ac;rw[S x y M]at q1;by_cases ae:x'=n
   ·subst ae;obtain⟨o4,g4,_⟩:=(aa y' o2).1 K;rw[N]at q2;exfalso;have br:=bI (C.objs x y o1 ac) q1;rcases(ag y' o4 j c2 g4 q2).1 with g|g
    ·omega
    obtain⟨y3,o5,c5,k1,k2⟩:=(Q j).1 g;exact M (C.inj x y x' y3 o1 o5 j c1 c5 ac k1 q1 k2).1
   rw[ab x' ae]at K;rw[S x' y' ae]at q2;exact C.inj x y x' y' o1 o2 j c1 c2 ac K q1 q2
  ·by_cases M:x=n
   ·subst M;obtain⟨o3,V,_⟩:=(aa y D).1 E;rw[N]at q;rcases(ag y o3 j J V q).1 with g|g
    ·refine⟨.inl (XQ C.keep.size g),fun hX=>?_⟩;have:=C.bar j hX;omega
    obtain⟨y3,o5,c5,k1,k2⟩:=(Q j).1 g;exact C.old x y3 o5 j c5 k1 k2
   rw[ab x M]at E;rw[S x y M]at q;exact C.old x y D j J E q
  by_cases M:x=n
  ·subst M;obtain⟨o3,V,rfl⟩:=(aa y D).1 E;intro l he z Y;simp only[renO,XR]at he;obtain⟨e',ap,rfl⟩:=he;simp only[XR]at Y;obtain⟨z',a7,rfl⟩:=Y;exact dj x z'
  rw[ab x M]at E;exact C.self x y D E
 exact⟨L,N,a4,mono,JI sR bw ba⟩
theorem vd {B:Nat->Prop} {G:Rho} (K:a.defers=[]) (q:a.tmps.size=s.tmps.length) (C:Inv w0 O X s.H G w) (D:aT X G s a w) (T: ∀j,B j->O j/\X j) (sR:selfTV 0 t) (p: ∀o∈c,selfO 0 o) (l: ∀o∈e,selfO 0 o) (J:n<=4999) (A:s.H n=c.map (renO n)):
  ∃(m:Nat->Prop) (g:Rho),Inv w (fun j=>famB c g j\/B j) m (famH 0 c) g w/\(∀j,B j->m j)/\
   (∀f v,selfTV 0 f->(renTV n f).rel G s.H (Xo X G s.H) w v->f.rel g (famH 0 c) (Xo m g (famH 0 c)) w v)/\
   (∀j,famB c g j-> ∃(y:Nat) (o:OObj) (b:Nat),(s.H n)[y]?=some o/\G n y=some (j,b))/\
   ∀v z h,Inv w (fun j=>famB c g j\/B j) m (famH 0 e) h z->t.rel h (famH 0 e) (Xo m h (famH 0 e)) z v-> ∀d,de w0 O X (AS.put ⟨s.tmps.map (aM (kF n)),aw s.H n (e.map (renO n))⟩ d (renTV n t)) (a.put d v) z:=by
 obtain⟨m,g,M,N,Q,R,_,S⟩:=x4 K q C D T sR p l J A;refine⟨m,g,M,N,Q,R,fun v z h U V d=>?_⟩;obtain⟨I,_,Y,Z,k3⟩:=S v z h U V;have E:aT X I ⟨s.tmps.map (aM (kF n)),aw s.H n (e.map (renO n))⟩ a z:=fun f x L=>by
  simp only[XK]at L;obtain⟨y,W,rfl⟩:=XI.1 L;obtain⟨u,u1,u2⟩:=D f y W;exact⟨u,u1,vq u2 Z⟩
 exact⟨by rw[gk];exact K,by rw[jR,eY];simpa using q,I,by rw[fj];exact Y,oY (s:=⟨s.tmps.map (aM (kF n)),aw s.H n (e.map (renO n))⟩) (by simpa using q) E k3⟩
def U3 (c:Array Oper) (m:Nat) (r:TV) (b:Nat) (e:List OObj) (s:AS):AS:=AS.put ⟨s.tmps.map (aM (kF b)),aw s.H b (e.map (renO b))⟩ (mw c m) (renTV b r)
end
end
section
section
variable {P:Program} {k:Nat} {s s':AS} {Q:Exit->AS->Prop}
theorem wC {m:Nat} {p:Nat->Bool} (g:m<=n) (c: ∀j,j<m->p j=true) (e: ∀j,j<n->m<=j->p j=false):lk n p=List.range m:=by
 unfold lk;have f:List.range n=List.range m++List.range' m (n-m):=by
  have:=Zg (s:=0) (m:=m) (n:=n-m);rw[show m+(n-m)=n by omega,Yw]at this;rw[Ya,Ya];exact this.symm
 rw[f,abH,aar.2 (fun j b=>c j (Yv.1 b)),Zh.2,YI];intro j b;have:=aaB.1 b;simp[e j (by omega) this.1]
end
end
section
abbrev FW (b:Option Nat):Fence:={Fence.wide with round:=b}
section
variable {P:Program} {w0 w:World} {O X:Nat->Prop} {s s':AS} {a:Act} {ks:List Nat}
theorem js {f:Option Nat} (g:f=none\/ ∀c,u.op≠ .defer c) (b:u.wp P a w q h):u.wpIn (FW f) n P a w q h:=by
 refine⟨fun _ _=>trivial,?_⟩;have e:Oper.semAt (FW f).round a.eval u=execOp a.eval u:=by
  rcases g with rfl|g
  ·rfl
  exact Oper.semAt_eq _ _ _ g
 rw[e];unfold Oper.wp at b;generalize(execOp a.eval u).run P w=r at b⊢;have l:(FW f).depth.isSome=true->1<=n:=fun b=>by simp[Fence.wide]at b
 cases r with
 |ok x j=>
  cases x<;>simp only[Oper.upon,Oper.uponIn]at b⊢ <;>first
   |exact b
   |exact⟨l,CallsIn.mono (callsIn_wide.2 b) (fun e t p=>by cases e<;>exact p)⟩
   |exact⟨l,fun c m _=>let ⟨v,j,r,s⟩:=b c m;⟨v,j,r,stepsIn_wide.2 s⟩⟩
 |halt x j=>cases x<;>simp only[Oper.upon,Oper.uponIn]at b⊢ <;>exact b
theorem tQ {e:List (an P)} {i:Nat} {j:AS} (p:b[i]?=some u) (c:aQ P (e.map an.a) r b i u s=some j) (t:de w0 O X s a w) (m: ∀v l,de w0 O X j (a.put u.dst v) l->q (a.put u.dst v) l):wpOpIn (FW none) n P b h i q a w:=by
 have f:=im (Q:=h) (an.ok e) t c m;unfold wpOpIn;rw[p];simp only;split at f
 ·rename_i g;rw[if_pos g];exact js (.inl rfl) f
 rename_i g;rw[if_neg g];exact⟨fun _ _=>trivial,f⟩
def uc (ks:List Nat) (a b:Act):Prop:= ∀k∈ks,b.tmps[k]?=a.tmps[k]?
def da (ks:List Nat) (b:Array Oper):Bool:=ks.all fun k=>gB k b
theorem kW (h:da r b=true) (e:b[n]?=some u) (v:Value):uc r a (a.put u.dst v):=fun k c=>by
 unfold da at h;rw[XO]at h;exact uB v (vL (h k c) e)
theorem uc.trans {b c e:Act} (h:uc ks b c) (g:uc ks c e):uc ks b e:=fun k f=>(g k f).trans (h k f)
theorem qn {n:Nat} {c:List (an P)} {A:List Nat} {b:Array Oper} (t:da ks b=true) {Q:Exit->Act->World->Prop} {suf:List Nat}: ∀(l:List Oper) (m:Nat) (s s':AS) (a:Act) (w:World),(∀(j:Nat) o,l[j]?=some o->b[m+j]?=some o)->
  gZ P (c.map an.a) A b (l.zipIdx m) s=some s'->de w0 O X s a w->(∀f g,uc ks a f->de w0 O X s' f g->wpOpsIn (FW none) n P b Q suf f g)->wpOpsIn (FW none) n P b Q (List.range' m l.length++suf) a w
 |[],m,s,s',a,w,_,h,r,p=>by
  simp only[aau,gZ]at h;injection h with h
  subst h;exact p a w (fun _ _=>rfl) r
 |o::l,m,s,s',a,w,u,h,r,p=>by
  simp only[ZA,gZ]at h;split at h
  ·rename_i C q;simp only[Ym,YM,Z6];rw[wpOpsIn_cons];have x:b[m]?=some o:=by have:=u 0 o rfl;simpa using this
   exact tQ x q r fun v g z=>qn t l (m+1) C s' _ _ (fun j o y=>by have:=u (j+1) o (by simpa using y);rwa[show m+(j+1)=m+1+j by omega]at this) h z fun f g e B=>p f g ((kW t x v).trans e) B
  cases h
theorem Av {n:Nat} {f:List (an P)} {suf:List Nat}: ∀(l:List Oper) (k:Nat) (s s':AS) (a:Act) (w:World),(∀(j:Nat) o,l[j]?=some o->b[k+j]?=some o)->
  gZ P (f.map an.a) r b (l.zipIdx k) s=some s'->de w0 O X s a w->(∀g m,de w0 O X s' g m->wpOpsIn (FW none) n P b h suf g m)->wpOpsIn (FW none) n P b h (List.range' k l.length++suf) a w:=fun l k s s' a w q c e p=>
 qn (ks:=[]) rfl l k s s' a w q c e fun g m _ t=>p g m t
/-! Ways to say how a state and a world stand to one another. -/
def KK (R:AS->Act->World->Prop):Prop:= ∀s a w,R s a w-> ∃(g:World) (b c:Nat->Prop),de g b c s a w/\ ∀s' e f,de g b c s' e f->R s' e f
theorem CE:KK (de w0 O X):=fun _ _ _ h=>⟨w0,O,X,h,fun _ _ _ h=>h⟩
def zg (P:Program) (o:Oper) (c e:Act->World->Prop):Prop:= ∀(a:Act) (w:World) (K:Act->World->Prop) (Q:Exit->Act->World->Prop),c a w->(∀v b,e (a.put o.dst v) b->K (a.put o.dst v) b)->o.wpIn (FW none) 0 P a w K Q
def uh (P:Program) (b:Array Oper) (m:Nat) (c e:Act->World->Prop):Prop:= ∃o,b[m]?=some o/\o.guard=none/\zg P o c e
def xw (ks:List Nat) (R:AS->Act->World->Prop):Prop:= ∀s a w,R s a w-> ∃(g:World) (c e:Nat->Prop),de g c e s a w/\ ∀s' b f,uc ks a b->de g c e s' b f->R s' b f
theorem KK.k (M:KK j):xw [] j:=fun s a w h=>
 have⟨w1,O1,X1,h1,h2⟩:=M s a w h
 ⟨w1,O1,X1,h1,fun s' b c _ r=>h2 s' b c r⟩
theorem qH {R1 R2:AS->Act->World->Prop} (B:xw ks R1) (C:xw ks R2) (m:Nat) (c:List (an P)) (A:List Nat) {id:Nat} (z:da ks b=true) (L:m<b.toList.length) {u x y:AS} (H:gZ P (c.map an.a) A b ((b.toList.take m).zipIdx 0) s=some u) (r:uh P b m (R1 u) (R2 x)) (I:gZ P (c.map an.a) A b ((b.toList.drop (m+1)).zipIdx (m+1)) x=some y) (N:R1 s a w) (J: ∀f g,R2 y f g->h .normal f g):(Code.region id b false).wp P h a w:=by
 refine(wpIn_wide (n:=0)).1 (wpIn_region (F:=FW none) ?_);obtain⟨wa,Oa,Xa,V,R⟩:=B s a w N;obtain⟨o,M,K,q⟩:=r;have t:b.size=(b.toList.take m).length+(1+(b.toList.drop (m+1)).length):=by simp at L⊢;omega
 rw[t,Ya,<- Zg,Yw];have l:(b.toList.take m).length=m:=by rw[Y9];omega
 refine qn z (b.toList.take m) 0 s u a w (fun j o e=>?_) H V fun f g E T=>?_
 ·rw[Yl]at e;split at e
  ·simpa using e
  cases e
 rw[l,Z3 1,YM,wpOpsIn_cons];unfold wpOpIn;rw[M];simp only;rw[if_pos (by simp[Region.wanted,K])];refine q f g _ _ (R _ _ _ E T) fun v Y p=>?_
 obtain⟨wb,Ob,Xb,W,S⟩:=C _ _ _ p;have:=qn (n:=0) (Q:=h) (suf:=[]) z (b.toList.drop (m+1)) (m+1) x y _ Y (fun j o e=>by
  rw[Yr]at e;simpa using e) I W (fun D Z G U=>J D Z (S _ _ _ G U))
 rwa[YI]at this
/-! A drawn region whose last operation comes behind all others. -/
def uU (o:Oper):Oper:={o with op:= .move (.const (.bool false))}
def xa:Nat->List Oper->List Oper
 |_,[]=>[]
 |0,o::l=>uU o::l
 |m+1,o::l=>o::xa m l
def jx (b:Array Oper) (m:Nat):Array Oper:=⟨xa m b.toList⟩
theorem B4: ∀(m:Nat) (l:List Oper) (i:Nat),(xa m l)[i]?=if i=m then(l[i]?).map uU else l[i]?
 |m,[],i=>by simp[xa]
 |0,o::l,0=>rfl
 |0,o::l,i+1=>by simp[xa]
 |m+1,o::l,0=>by simp[xa]
 |m+1,o::l,i+1=>by simp[xa,B4 m l i]
theorem B5: ∀(m:Nat) (l:List Oper),(xa m l).length=l.length
 |m,[]=>by simp[xa]
 |0,o::l=>rfl
 |m+1,o::l=>by simp[xa,B5 m l]
section
variable {ops:Array Oper} {m:Nat}
theorem gS (i:Nat):(jx ops m)[i]?=if i=m then(ops[i]?).map uU else ops[i]?:=by
 have:=B4 m ops.toList i;simpa[jx] using this
theorem eE:(jx ops m).size=ops.size:=by simp[jx,B5]
theorem PO (g:Nat):((jx ops m)[g]?).bind (·.dst)=(ops[g]?).bind (·.dst):=by
 rw[gS];split
 ·cases ops[g]?<;>rfl
 rfl
theorem mM {b:List (dc P)} {i:Nat}:aQ P b r (jx ops m) i u s=aQ P b r ops i u s:=by
 unfold aQ;simp only[PO]
theorem yA {b:Array Bool} {i:Nat}:i∈Region.ready .any (jx ops m) b↔i∈Region.ready .any ops b:=by
 constructor
 ·intro h;obtain⟨f,o,c,g⟩:=mem_ready.1 h;rw[gS]at c;split at c
  ·obtain⟨l,j,rfl⟩:=XI.1 c;exact mem_ready.2 ⟨f,l,j,g⟩
  exact mem_ready.2 ⟨f,o,c,g⟩
 intro h;obtain⟨f,o,c,g⟩:=mem_ready.1 h;by_cases e:i=m
 ·exact mem_ready.2 ⟨f,uU o,by rw[gS,if_pos e,c];rfl,g⟩
 exact mem_ready.2 ⟨f,o,by rw[gS,if_neg e];exact c,g⟩
theorem BG {Wp:Nat->(Act->World->Prop)->Act->World->Prop}: ∀f,oC (jx ops m) q Wp f=oC ops q Wp f:=by
 have c: ∀b,Region.ready .any (jx ops m) b=[]↔Region.ready .any ops b=[]:=fun b=>by
  simp only[aaE,yA]
 intro f
 induction f with
 |zero=>funext l a w;simp only[oC,c]
 |succ f e=>funext l a w;simp only[oC,c,yA,e]
theorem tp {n:Nat} {Q:Exit->Act->World->Prop}: ∀f,oC ops (Q .normal) (fun i K a w=>wpOpIn (FW none) n P ops Q i K a w) f=wpAnyIn (FW none) n P .any ops Q f
 |0=>rfl
 |f+1=>by
  funext l a w;simp only[oC,wpAnyIn,tp f]
end
def EE (b:Array Oper):Bool:=decide (0<b.size)&&(bX [] (jx b (b.size-1))&&(List.range (b.size-1)).all fun i=>((oB (jx b (b.size-1)).toList []).getD (b.size-1) 0).testBit i)
theorem uT {R1 R2:AS->Act->World->Prop} (V:xw ks R1) (ad:P.follows .mixedOrders=true) (c:List (an P)) (u:List Nat) {id:Nat} (hk:da ks b=true) (hE:EE b=true) {I T:AS} (h1:gZ P (c.map an.a) u b ((b.toList.take (b.size-1)).zipIdx 0) s=some I) (ah:uh P b (b.size-1) (R1 I) (R2 T)) (y:R1 s a w) (hQ: ∀a' J,R2 T a' J->h .normal a' J):(Code.region id b true).wp P h a w:=by
 simp only[EE,Yh,decide_eq_true_eq,XO,Yv]at hE;obtain⟨al,hd,B⟩:=hE;obtain⟨o,U,hg,ag⟩:=ah;generalize hm:b.size-1=m at*
 have g:m<b.size:=by omega
 have ac:(b.toList.take m).length=m:=by rw[Y9];simp;omega
 have C:db P (c.map an.a) u (jx b m) (List.range m) s=some I:=by
  have:=gD (P:=P) (items:=c.map an.a) (ow:=u) (b.toList.take m) 0 s (fun j o t=>by
   rw[Yl]at t;split at t
   ·simpa using t
   cases t)
  rw[h1,ac,<- Ya]at this;rw[this];have key: ∀(l:List Nat) (s:AS),(∀i∈l,i<m)->db P (c.map an.a) u (jx b m) l s=db P (c.map an.a) u b l s:=fun l=>by
   induction l with
   |nil=>intros;rfl
   |cons i l ih=>
    intro s hl;have hi:=hl i (by simp);have e:dF P (c.map an.a) u (jx b m) i s=dF P (c.map an.a) u b i s:=by
     unfold dF;rw[gS,if_neg (by omega)];simp only[mM]
    simp only[db,e];cases dF P (c.map an.a) u b i s with
    |none=>rfl
    |some T=>exact ih T fun j t=>hl j (by simp[t])
  exact key _ _ fun i hi=>Yv.1 hi
 have M:(jx b m)[m]?=some (uU o):=by rw[gS,if_pos rfl,U];rfl
 have D:aQ P (c.map an.a) u (jx b m) m (uU o) I=some (I.put o.dst (.raw (.bool false))):=by
  unfold aQ;rw[show(uU o).guard=none from hg];rfl
 have S:db P (c.map an.a) u (jx b m) (List.range (jx b m).size) s=some (I.put o.dst (.raw (.bool false))):=by
  rw[eE,show b.size=m+1 by omega,YU,iY,C];simp only[YH,db];unfold dF;rw[M];simp only;rw[D];rfl
 refine(wpIn_wide (n:=0)).1 (wpIn_region_any (F:=FW none) ad ?_);have ae:R1 s a {w with drawn:=w.drawn+1}:=by
  obtain⟨wa,Oa,Xa,⟨q1,q2,ρ,R,H⟩,ka⟩:=V s a w y;have e:Ext w {w with drawn:=w.drawn+1}:=⟨rfl,rfl,rfl,XY _,fun _ _=>rfl⟩;have H:aT Xa ρ s a w:=H;exact ka _ _ _ (fun _ _=>rfl) ⟨q1,q2,ρ,R.grow e,H.grow e⟩
 have E:kM s:=by obtain⟨wa,Oa,Xa,r,_⟩:=V s a w y;exact ef r
 rw[<- tp,<- BG (m:=m)];refine lJ (sep:=[]) (kT hd (by simp)) hd (fun p s a w=>if p m then R2 T a w else R1 s a w) ⟨E,fun x hx=>by simp at hx⟩ S (fun p a w L y=>?_) (fun p i o' s' a0 a w K f G Y hs y hK=>?_) b.size (Array.replicate b.size false) s a _ (by simp[eE]) ?_ ?_ ?_ ?_
 ·rw[if_pos (L m (by rw[eE];exact g))]at y;exact hQ a w y
 ·obtain⟨hc,W,q⟩:=Y;have ap:i<b.size:=by have:=(XV.1 f).1;rwa[eE]at this
  have A:cG p i i=true:=by simp[cG]
  by_cases N:i=m
  ·subst N;rw[M]at f;injection f with f
   subst f;have af:lk (jx b i).size p=List.range i:=wC (by rw[eE];omega) (fun j t=>by
    have:=lR W (i+1) i (by omega) (by rw[eE];exact g) A (B j t);have aa:(j==i)=false:=by simp;omega
    simpa[cG,aa] using this) (fun j Z av=>by
    rw[eE]at Z;rw[show j=i by omega];exact G)
   rw[af,C]at q;injection q with q
   subst q;rw[G,if_neg (by decide)]at y;unfold wpOpIn;rw[U];simp only;rw[if_pos (by simp[Region.wanted,hg])];exact ag a w K h y fun v J h2=>hK v J (by rw[if_pos A];exact h2)
  have z:p m=false:=by
   cases z:p m with
   |false=>rfl
   |true=>
    have:=lR hc (m+1) m (by omega) (by rw[eE];exact g) z (B i (by omega));rw[G]at this;cases this
  rw[z,if_neg (by decide)]at y;rw[gS,if_neg N]at f;rw[mM]at hs;obtain⟨wa,Oa,Xa,ra,ka⟩:=V _ _ _ y;have ab:(m==i)=false:=by simp;omega
  exact tQ f hs ra fun v J r'=>hK v J (by simpa[cG,z,ab] using ka _ _ _ (kW hk f v) r')
 ·intro j o U hp;have t:j<b.size:=by have:=(XV.1 U).1;rwa[eE]at this
  simp[t]at hp
 ·exact XQ (ZT _ _) (by simp[eE])
 ·have:lk (jx b m).size (fun j=>(Array.replicate b.size false).getD j true)=[]:=by
   unfold lk;rw[Zh];intro j t;have:=Yv.1 t;rw[eE]at this;simp[this]
  rw[this];rfl
 rw[if_neg (by simp[g])];exact ae
end
end
section
structure gM (γ:Type) where
 B:Nat->Prop
 G:γ->(Nat->Prop)->World->Prop
 sp: ∀(g:γ) (Y:Nat->Prop) (w w':World),(∀j,B j->w'.heap[j]?=w.heap[j]?)->(∀j,¬Y j->w'.heap[j]?=w.heap[j]?)->G g Y w->G g Y w'
def Wk:gM Unit:=⟨fun _=>False,fun _ _ _=>True,fun _ _ _ _ _ _ h=>h⟩
section
variable {P:Program} {γ:Type} {L:gM γ} {g g':γ} {w0 w:World} {O X Y:Nat->Prop} {s s':AS} {a:Act}
def eK (L:gM γ) (Y:Nat->Prop) (w0:World) (O X:Nat->Prop) (g:γ) (s:AS) (a:Act) (w:World):Prop:=de w0 O X s a w/\(∀j,L.B j->O j/\X j)/\(∀j,O j\/w0.heap.size<=j->Y j)/\L.G g Y w
theorem eK.rebase (h:eK L Y w0 O X g s a w): ∃Own:Nat->Prop,de w Own X s a w/\ ∀D q p,de w Own X D q p->eK L Y w0 O X g D q p:=by
 obtain⟨⟨I,z,E,b,A⟩,v,y,J⟩:=h;refine⟨fun j=> ∃(x r:Nat) (o:OObj) (c:Nat),(s.H x)[r]?=some o/\E x r=some (j,c),⟨I,z,E,⟨Keep.refl w,b.objs,b.inj,fun x r o j c n l=>⟨.inr ⟨x,r,o,c,n,l⟩,(b.old x r o j c n l).2⟩,b.bar,b.self⟩,A⟩,?_⟩;rintro D q p ⟨M,B,F,e,C⟩;have f: ∀j,(∃(x r:Nat) (o:OObj) (c:Nat),(s.H x)[r]?=some o/\E x r=some (j,c))->(w0.heap.size<=j\/O j)/\ ¬X j:=fun j ⟨x,r,o,c,t,u⟩=>b.old x r o j c t u
 refine⟨⟨M,B,F,⟨⟨e.keep.os.trans b.keep.os,e.keep.tape.trans b.keep.tape,e.keep.output.trans b.keep.output,XQ b.keep.size e.keep.size,fun j l G=>?_⟩,e.objs,e.inj,fun x r o j c n l=>?_,e.bar,e.self⟩,C⟩,v,y,?_⟩
 ·rw[e.keep.block j (XZ l b.keep.size) (fun m=>by
   rcases(f j m).1 with h|h
   ·omega
   exact G h)]
  exact b.keep.block j l G
 ·obtain⟨t,u⟩:=e.old x r o j c n l;refine⟨?_,u⟩;rcases t with g|g
  ·exact .inl (XQ b.keep.size g)
  exact(f j g).1
 refine L.sp g Y w p (fun j l=>e.keep.block j (b.bar j (v j l).2) (fun m=>(f j m).2 (v j l).2)) (fun j l=>?_) J;by_cases K:j<w.heap.size
 ·exact e.keep.block j K fun m=>l (y j (f j m).1.symm)
 exact absurd (y j (.inr (XQ b.keep.size (by omega)))) l
theorem rE:KK (eK L Y w0 O X g):=fun _ _ w h=>by
 obtain⟨Own,b,c⟩:=h.rebase;exact⟨w,Own,X,b,c⟩
def qY (P:Program) (L:gM γ) (c:Code) (Q:Exit->AS->γ->Prop) (s:AS) (g:γ):Prop:=
 ∀(Y:Nat->Prop) (w0:World) (O X:Nat->Prop) (a:Act) (w:World),eK L Y w0 O X g s a w->c.wp P (fun e b f=> ∃s' g',Q e s' g'/\eK L Y w0 O X g' s' b f) a w
def qI (next:AS->γ->Prop) (Q:Exit->AS->γ->Prop):Exit->AS->γ->Prop
 | .normal,s,k=>next s k
 |e,s,k=>Q e s k
def Ed (id:Nat) (Q:Exit->AS->γ->Prop):Exit->AS->γ->Prop
 | .exit b,s,k=>if b=id then Q .normal s k else Q (.exit b) s k
 |e,s,k=>Q e s k
variable {Q:Exit->AS->γ->Prop}
theorem S4 (h:bs P f (fun e s'=>Q e s' g) s):qY P L f Q s g:=fun Y w0 O X a w r=>by
 obtain⟨Own,l,m⟩:=r.rebase;exact wp_mono (h _ _ _ _ _ l) fun e n o ⟨s',b,j⟩=>⟨s',g,b,m _ _ _ j⟩
theorem eK.weak (h:bv s s') (r:eK L Y w0 O X g s a w):eK L Y w0 O X g s' a w:=by
 obtain⟨Own,b,c⟩:=r.rebase;exact c _ _ _ (h _ _ _ _ _ b)
theorem qY.weak (h:bv s s') (k:qY P L f Q s' g):qY P L f Q s g:=fun _ _ _ _ _ _ r=>k _ _ _ _ _ _ (r.weak h)
theorem K0 (h:Q .normal s g):qY P L .skip Q s g:=fun _ _ _ _ _ _ r=>wp_skip ⟨s,g,h,r⟩
theorem Pj (h:Q .ret s g):qY P L .ret Q s g:=fun _ _ _ _ _ _ r=>wp_ret ⟨s,g,h,r⟩
theorem tn {y:Code} (h:qY P L f (qI (qY P L y Q) Q) s g):qY P L (.seq f y) Q s g:=fun _ _ _ _ _ _ r=>
 wp_seq (wp_mono (h _ _ _ _ _ _ r) fun e a w ⟨s',g',b,c⟩=>by
  cases e with
  |normal=>exact b _ _ _ _ _ _ c
  |_=>exact⟨s',g',b,c⟩)
theorem Bp {y:Code} (l:s.ev o=some (.raw (.bool x))) (p:x=true->qY P L f Q s g) (m:x=false->qY P L y Q s g):qY P L (.cond o f y) Q s g:=fun _ _ _ _ _ _ r=>by
 obtain⟨⟨q,n,t,e,b⟩,_⟩:=id r;have j:=(aU (bf b o _ l)).1;exact wp_cond_split j (fun h=>p h _ _ _ _ _ _ r) (fun h=>m h _ _ _ _ _ _ r)
theorem S3 {y:Code} (b:s.ev o=some (.raw (.bool true))) (h:qY P L f Q s g):qY P L (.cond o f y) Q s g:=Bp b (fun _=>h) (fun h=>by cases h)
theorem S2 {y:Code} (b:s.ev o=some (.raw (.bool false))) (h:qY P L y Q s g):qY P L (.cond o f y) Q s g:=Bp b (fun h=>by cases h) (fun _=>h)
theorem K1 (c:List (an P)) (e:List Nat) {id:Nat} (h: ∀K:AS->Prop,(∀s',qY P L f Q s' g->K s')->aV P (c.map an.a) e (aJ b b.toList 0) (some s) K):qY P L (.seq (.region id b false) f) Q s g:=
 tn (S4 (mF c e h))
theorem qZ {id:Nat} (h: ∀K:AS->Prop,(∀s',qY P L f Q s' g->K s')->aV P [] [] (aJ b b.toList 0) (some s) K):qY P L (.seq (.region id b false) f) Q s g:=K1 [] [] h
structure pi (P:Program) (L:gM γ) (f:FuncId) (args:List TV) (F F':List OObj) (g g':γ) (r:TV):Prop where
 able:callable P f=true
 sA: ∀t∈args,selfTV 0 t
 sR:selfTV 0 r
 sF: ∀o∈F,selfO 0 o
 sF': ∀o∈F',selfO 0 o
 calls: ∀(X Y:Nat->Prop) (w:World) (vs:Array Value) (ρ:Rho),Inv w (fun j=>famB F ρ j\/L.B j) X (famH 0 F) ρ w->(∀j,L.B j->X j)->(∀j,(famB F ρ j\/L.B j)\/w.heap.size<=j->Y j)->L.G g Y w->vs.size=args.length->
  (∀(j:Nat) t,args[j]?=some t-> ∃v:Value,vs[j]?=some v/\t.rel ρ (famH 0 F) (Xo X ρ (famH 0 F)) w v)->
  Calls P f vs w fun e w'=> ∃v,e= .returned v/\ ∃ρ':Rho,Inv w (fun j=>famB F ρ j\/L.B j) X (famH 0 F') ρ' w'/\L.G g' Y w'/\r.rel ρ' (famH 0 F') (Xo X ρ' (famH 0 F')) w' v
theorem Lt {l:FuncId} {D:Func} {args:List TV} (hf:P.funcs[l]?=some D) (Z:D.body=some f) (hn:callable P l=true) (sA: ∀m∈args,selfTV 0 m) (sR:selfTV 0 t) (sF: ∀o∈c,selfO 0 o) (sF': ∀o∈e,selfO 0 o) (h:qY P L f (fun b s k=>(b= .normal\/b= .ret)/\k=g'/\ ∃s',bv s s'/\Vr P D e t s') ⟨args++List.replicate (D.ntmps-args.length) .undef,famH 0 c⟩ g):pi P L l args c e g g' t:=by
 refine⟨hn,sA,sR,sF,sF',fun X Y w vs S y U W V M u=>?_⟩;refine calls_of_wp hf Z ?_;have G:de w (fun j=>famB c S j\/L.B j) X ⟨args++List.replicate (D.ntmps-args.length) .undef,famH 0 c⟩ {tmps:=vs++Array.replicate (D.ntmps-vs.size) undef,defers:=[]} w:=by
  refine⟨rfl,by simp[M],S,y,fun m x p=>?_⟩;by_cases ht:m<args.length
  ·rw[XS ht]at p;obtain⟨v,I,H⟩:=u m x p;exact⟨v,by rw[X8 (by omega)];exact I,H⟩
  rw[XW (by omega),YF]at p;split at p
  ·rename_i aa;injection p with p
   subst p;refine⟨undef,?_,ee⟩;rw[Yi (by omega),Y8,if_pos (by omega)]
  cases p
 refine wp_mono (h Y _ _ _ _ _ ⟨G,fun j R=>⟨.inr R,U j R⟩,W,V⟩) fun b T w' ⟨s1,k,⟨K,hk,s2,hw,q,J⟩,z,_,_,E⟩=>?_
 subst hk;obtain⟨N,ab,C,n,A⟩:=hw _ _ _ _ _ z;have A:aT X C s2 T w':=A;rw[q]at n;obtain⟨v,I,H⟩:=fk (by rw[q];exact n) A J;rw[q]at H;rcases K with rfl|rfl
 ·exact⟨N,v,I,v,rfl,C,n,E,H⟩
 exact⟨N,v,I,v,rfl,C,n,E,H⟩
def oI (o:Oper) (s:AS):Option (FuncId×List TV):=match o.op with
 | .call c=>match c.callee with
  | .value (.func f)=>(fd s.ev c.args.toList).map fun e=>(f,e)
  | .value (.tmp k)=>match Ef (s.ev (.tmp k)),fd s.ev c.args.toList with
   |some (f,b),some e=>some (f,e++b)
   |_,_=>none
  |_=>none
 |_=>none
def cxTs (b:Array Oper) (m:Nat) (s:AS):Option (FuncId×List TV):=match b[m]? with
 |some o=>if o.guard.isNone then oI o s else none
 |none=>none
structure A6 (ops:Array Oper) (m:Nat) (f:FuncId) (args:List TV) (fa:Nat) (F:List OObj) (s:AS):Prop where
 ts:cxTs ops m s=some (f,args.map (renTV fa))
 fam:s.H fa=F.map (renO fa)
theorem JW {f:FuncId} {args:List TV} (m:pi P L f args c e g g' t) (ad:n<=4999) (p:oI u s=some (f,args.map (renTV n))) (R:s.H n=c.map (renO n)):
  zg P u (eK L Y w0 O X g s) (eK L Y w0 O X g' (AS.put ⟨s.tmps.map (aM (kF n)),aw s.H n (e.map (renO n))⟩ u.dst (renTV n t))):=fun a w K Q ⟨⟨h1,af,ρ,z,q⟩,hB,hY,hG⟩ hK=>by
 have q:aT X ρ s a w:=q;obtain⟨X1,V,g1,g2,g3,gF,g4⟩:=vd (B:=L.B) h1 af z q hB m.sR m.sF m.sF' ad R;refine js (.inl rfl) ?_;have key: ∀vs:Array Value,(execOp a.eval u).run P w= .ok (.enter f vs) w->vs.size=args.length->(∀(j:Nat) l,args[j]?=some l-> ∃v:Value,vs[j]?=some v/\(renTV n l).rel ρ s.H (Xo X ρ s.H) w v)->u.wp P a w K Q:=fun vs U ah G=>by
  unfold Oper.wp;rw[U];simp only[Oper.upon];have ab: ∀j,(famB c V j\/L.B j)\/w.heap.size<=j->Y j:=fun j A=>hY j (by
   rcases A with(A|A)|A
   ·obtain⟨y,u,b,k1,k2⟩:=gF j A;exact(z.old n y u j b k1 k2).1.symm
   ·exact .inl (hB j A).1
   exact .inr (XQ z.keep.size A))
  refine(m.calls X1 Y w vs V g1 g2 ab hG ah fun j l N=>?_).mono ?_
  ·obtain⟨v,v1,v2⟩:=G j l N;exact⟨v,v1,g3 l v (m.sA l (XH N)) v2⟩
  rintro h w1 ⟨v,rfl,al,hi,aa,ae⟩;exact hK v w1 ⟨g4 v w1 al hi ae u.dst,hB,hY,aa⟩
 unfold oI at p;split at p
 ·rename_i b T;split at p
  ·rename_i f' x;obtain⟨ts,I,h⟩:=XI.1 p;injection h with h W
   subst h W;obtain⟨D,Z⟩:=bU I;have J:b.args.size=args.length:=by simpa using D.symm
   refine key _ (jS T x rfl m.able) (by simp[J]) fun j l N=>?_
   obtain⟨y,hy,M⟩:=Z j (renTV n l) (by rw[XK,N];rfl);refine⟨a.eval y,?_,bf q y _ M⟩;rw[YC];have:b.args[j]?=some y:=by simpa using hy
   rw[this];rfl
  ·rename_i k x;split at p
   ·rename_i f' E ts ac I;injection p with p
    injection p with h W
    subst h;obtain⟨D,Z⟩:=bU I;obtain⟨us,k1,k2,k3⟩:=jt (v:=a.eval (.tmp k)) (fun t0 ag=>bf q (.tmp k) t0 ag) ac;have S:args.length=b.args.size+us.size:=by
     have:=congrArg List.length W;simp[D,<- k2]at this;omega
    refine key _ (jB T x k1 m.able) (by simp[S]) fun j l N=>?_
    have C:(ts++E)[j]?=some (renTV n l):=by rw[W,XK,N];rfl
    by_cases A:j<ts.length
    ·rw[XS A]at C;obtain⟨y,hy,M⟩:=Z j _ C;refine⟨a.eval y,?_,bf q y _ M⟩;rw[X8 (by simp at D⊢;omega),YC];have:b.args[j]?=some y:=by simpa using hy
     rw[this];rfl
    rw[XW (by omega)]at C;obtain⟨v,v1,v2⟩:=k3 _ _ C;refine⟨v,?_,v2⟩;rw[Yi (by simp at D⊢;omega)];simp at D⊢;rw[<- D];exact v1
   cases p
  cases p
 cases p
theorem JU {f:FuncId} {args:List TV} (l:pi P L f args c e g g' t) (p:n<=4999) (h:A6 b m f args n c s):
  uh P b m (eK L Y w0 O X g s) (eK L Y w0 O X g' (U3 b m t n e s)):=by
 obtain⟨j,u⟩:=h;unfold cxTs at j;split at j
 ·rename_i o q;split at j
  ·rename_i v;refine⟨o,q,by simpa using v,?_⟩;unfold U3 mw;rw[q];exact JW l p j u
  cases j
 cases j
theorem Im (o:P.follows .mixedOrders=true) {f:FuncId} {args:List TV} (l:pi P L f args c e g g' t) (m:Nat) (j:List (an P)) (p:List Nat) {id:Nat} (n:m<=4999) (y:EE b=true) (h:aV P (j.map an.a) p (aJ b (b.toList.take (b.size-1)) 0) (some s) (fun u=>A6 b (b.size-1) f args m c u/\Q .normal (U3 b (b.size-1) t m e u) g')):qY P L (.region id b true) Q s g:=fun Y w0 O X a w A=>by
 obtain⟨u,v,q,x⟩:=aO P (j.map an.a) p b _ 0 s _ h;exact uT (ks:=[]) (R1:=eK L Y w0 O X g) (R2:=eK L Y w0 O X g') rE.k o j p rfl y v (JU l n q) A fun B C z=>⟨_,g',x,z⟩
theorem QQ:eK Wk (fun _=>True) w0 O X () s a w↔de w0 O X s a w:=⟨fun h=>h.1,fun h=>⟨h,fun _ h=>h.elim,fun _ _=>trivial,trivial⟩⟩
end
end
section
section
variable {P:Program} {γ:Type} {L:gM γ} {g g':γ} {w0 w w':World} {O X Y:Nat->Prop} {s s':AS} {a:Act}
theorem de.turn {B:Nat->Prop} (h:de w0 O X s a w) (C: ∀j,B j->O j/\X j) (k:Keep B w w'):de w0 O X s a w':=by
 obtain⟨N,F,l,f,G⟩:=h;have n: ∀(x r:Nat) (o:OObj) (b c:Nat),(s.H x)[r]?=some o->l x r=some (b,c)->w'.heap[b]?=w.heap[b]?:=fun x r o b c I J=>
  k.block b (bI (f.objs x r o I) J) fun m=>(f.old x r o b c I J).2 (C b m).2
 have mono: ∀x v,AV.rel l s.H (Xo X l s.H) w x v->AV.rel l s.H (Xo X l s.H) w' x v:=pC fun x v y h=>by
  cases x with
  |fn=>cases y
  |p x=>exact bO.later (fun _ _ h=>h) k.size (fun p v S D Q=>by rw[<- Q];exact iq (k.block p.block S fun m=>D (.inl (C _ m).2))) h
  |sl x r V len=>exact h
  |ptr x r i j=>exact h
  |junk=>trivial
 refine⟨N,F,l,⟨⟨k.os.trans f.keep.os,k.tape.trans f.keep.tape,k.output.trans f.keep.output,XQ f.keep.size k.size,fun j q y=>?_⟩,fun x r o K=>?_,f.inj,f.old,fun j q=>XZ (f.bar j q) k.size,f.self⟩,fun t x T=>?_⟩
 ·rw[k.block j (XZ q f.keep.size) fun m=>y (C j m).1];exact f.keep.block j q y
 ·obtain⟨q1,q2,A⟩:=f.objs x r o K;refine⟨q1,q2,?_⟩;cases E:l x r with
  |none=>rw[E]at A;exact A
  |some M=>
   obtain⟨b,c⟩:=M;rw[E]at A;obtain⟨cells,W,Z,p3,p4,p5⟩:=A;refine⟨cells,by rw[n x r o b c K E];exact W,Z,p3,p4,fun i e j z R U=>?_⟩;obtain⟨u,u1,u2,u3⟩:=p5 i e j z R U;exact⟨u,u1,u2,mono z u u3⟩
 obtain⟨v,v1,v2⟩:=G t x T;refine⟨v,v1,TV.rel_map v2 mono⟩
def rj (P:Program) (L:gM γ) (l:Nat) (args:List Value) (g g':γ) (b:Bool):Prop:=
 ∀(Y:Nat->Prop) (w:World),L.G g Y w-> ∃c tmps assign body,(Instr.yield l args.toArray).run P w= .ok (.round l c tmps assign body) w/\
  RoundIn (FW none) 0 P l c tmps assign body w fun e w'=>e= .returned (.bool b)/\Keep L.B w w'/\L.G g' Y w'
def wc:List TV->Option (List Value)
 |[]=>some []
 | .one (.p (.raw v))::l=>(wc l).map (v:: ·)
 |_=>none
theorem sN: ∀{b:List TV} {vs:List Value},wc b=some vs->b=vs.map TV.raw
 |[],vs,h=>by simp only[wc]at h;injection h with h;subst h;rfl
 |t::b,vs,h=>by
  unfold wc at h;split at h
  ·rename_i e;cases e
  ·rename_i v l e;injection e with c f
   subst c f;obtain⟨m,j,rfl⟩:=XI.1 h;rw[sN j];rfl
  cases h
def Vd (e:Array Oper) (m:Nat) (s:AS):Option (Nat×List Value):=match e[m]? with
 |some o=>match o.guard,o.op with
  |none,.call c=>match c.callee with
   | .value (.tmp k)=>match s.ev (.tmp k),(fd s.ev c.args.toList).bind wc with
    |some (.one (.p (.raw (.func (.yield l) first b)))),some vs=>if first.isEmpty&&b.isEmpty then some (l,vs)else none
    |_,_=>none
   |_=>none
  |_,_=>none
 |none=>none
def yS (c:Array Oper) (m:Nat) (b:Bool) (s:AS):AS:=s.put (mw c m) (.raw (.bool b))
theorem wM {args:List Value} (hy:rj P L n args g g' x) (h:Vd b m s=some (n,args)):
  uh P b m (eK L Y w0 O X g s) (eK L Y w0 O X g' (yS b m x s)):=by
 unfold Vd at h;split at h
 case h_2=>cases h
 rename_i o V;split at h
 case h_2=>cases h
 rename_i c hg F;split at h
 case h_2=>cases h
 rename_i k u;split at h
 case h_2=>cases h
 rename_i l' first R vs hk H
 split at h
 case isFalse=>cases h
 rename_i T;injection h with h
 injection h with e1 e2
 subst e1 e2;simp only[Yh,aa0]at T;obtain⟨rfl,rfl⟩:=T;obtain⟨ts,G,f⟩:=X4.1 H;have f:=sN f;subst f;refine⟨o,V,hg,fun a w K Q ⟨W,S,hY,hG⟩ hK=>?_⟩;obtain⟨h1,aa,ρ,U,q⟩:=id W;have q:aT X ρ s a w:=q;have E:=(aU (bf q (.tmp k) _ hk)).1;obtain⟨q1,q2⟩:=bU G;have r:c.args.map a.eval=vs.toArray:=by
  apply Array.ext';apply X7;intro j;simp only[Array.toList_map,XK];cases C:vs[j]? with
  |none=>
   have:c.args.toList[j]?=none:=by
    rw[aaW]at C⊢;simp at q1 C⊢;omega
   rw[this];rfl
  |some v=>
   obtain⟨y,I,J⟩:=q2 j (.raw v) (by rw[XK,C];rfl);rw[I];exact congrArg some (aU (bf q y _ J)).1
 obtain⟨fn,tmps,assign,body,z,p⟩:=hy Y w hG;have t:(execOp a.eval o).run P w= .ok (.round l' fn tmps assign body) w:=by
  unfold execOp;simp only[F,resolve,u,E,Deferred.ofValue,XP,Yb,XM,invoke,r,Array.append_empty];have Z:(#[]:Array Value)++vs.toArray=vs.toArray:=by simp
  rw[Z];exact z
 refine⟨fun _ _=>trivial,?_⟩;show o.uponIn (FW none) 0 P a K Q ((execOp a.eval o).run P w);rw[t,Oper.uponIn_round];refine⟨fun h=>by simp[Fence.wide]at h,p.mono ?_⟩;rintro e w1 ⟨rfl,D,B⟩;refine hK _ w1 ⟨?_,S,hY,B⟩;obtain⟨n1,M,ab,A,N⟩:=W.turn S D;have:mw b m=o.dst:=by unfold mw;rw[V];rfl
 unfold yS;rw[this];exact dY n1 M A N (bV rfl)
variable {Q:Exit->AS->γ->Prop}
theorem DV (e:P.follows .mixedOrders=true) {args:List Value} (r:rj P L n args g g' x) (c:List (an P)) (f:List Nat) {id:Nat} (p:EE b=true) (h:aV P (c.map an.a) f (aJ b (b.toList.take (b.size-1)) 0) (some s) (fun j=>Vd b (b.size-1) j=some (n,args)/\Q .normal (yS b (b.size-1) x j) g')):qY P L (.region id b true) Q s g:=fun Y w0 O X a w u=>by
 obtain⟨j,m,q,o⟩:=aO P (c.map an.a) f b _ 0 s _ h;exact uT (ks:=[]) (R1:=eK L Y w0 O X g) (R2:=eK L Y w0 O X g') rE.k e c f rfl p m (wM r q) u fun v w' t=>⟨_,g',o,t⟩
end
end
section
section
variable {P:Program} {w0 w w':World} {O X:Nat->Prop} {s s':AS} {a:Act} {ρ:Rho}
def RelR (ρ:Rho) (b:List Deferred) (w0:World) (O X:Nat->Prop) (s:AS) (a:Act) (w:World):Prop:=a.defers=b/\a.tmps.size=s.tmps.length/\Inv w0 O X s.H ρ w/\aT X ρ s a w
theorem RelR.put {b:List Deferred} (h:RelR ρ b w0 O X s a w) {d:Option Tmp} {v:Value} (c:t.rel ρ s.H (Xo X ρ s.H) w v):RelR ρ b w0 O X (s.put d t) (a.put d v) w:=
 ⟨by rw[gk];exact h.1,by rw[jR,eY];exact h.2.1,by rw[fj];exact h.2.2.1,oY h.2.1 h.2.2.2 c⟩
noncomputable def pw (P:Program) (o:Oper) (s:AS):Option AS:=
 if oN o.op then(jp P s.ev o.op).map (s.put o.dst)
 else if xg o.op then(bN P s.ev s.H o.op).map (s.put o.dst)
 else match o.op with
  | .store t h x=>match s.ev h,gK P t with
   |some (.one (.ptr a r i j)),some n=>match(s.H a)[r]? with
    |some b=>match b.elems[i]? with
     |some e=>match s.ev x with
      |some (.one (.sl g l f len))=>if g=a/\n=1/\j<e.length then some (AS.put ⟨s.tmps,aw s.H a ((s.H a).set r {b with elems:=b.elems.set i (putCells e j [.sl g l f len])})⟩ o.dst .undef)else none
      |some v=>match cellsOf v with
       |some c=>if c.length=n/\j+n<=e.length/\c.all isPure then some (AS.put ⟨s.tmps,aw s.H a ((s.H a).set r {b with elems:=b.elems.set i (putCells e j c)})⟩ o.dst .undef)else none
       |none=>none
      |none=>none
     |none=>none
    |none=>none
   |_,_=>none
  |_=>none
theorem yO {T:List Deferred} (h:RelR ρ T w0 O X s a w) {t:TypeId} {x:Operand} (ho:u.op= .store t o x) {i j f:Nat} {z:OObj} {e cs:List AV} (J:s.ev o=some (.one (.ptr n m i j))) (hn:gK P t=some f) (C:(s.H n)[m]?=some z) (he:z.elems[i]?=some e) (K:cs.length=f) (hj:j+f<=e.length) (hx:lL ρ s.H (Xo X ρ s.H) w cs (a.eval x).cells) (q: ∀y∈cs,bz n y): ∃w',(execOp a.eval u).run P w= .ok .skip w'/\RelR ρ T w0 O X (AS.put ⟨s.tmps,aw s.H n ((s.H n).set m {z with elems:=z.elems.set i (putCells e j cs)})⟩ u.dst .undef) (a.put u.dst undef) w':=by
 obtain⟨h1,F,B,p⟩:=h;have p:aT X ρ s a w:=p;obtain⟨aa,b,c,G,g2,g3,g4⟩:=bf p o _ J;rw[C]at G;injection G with G
 subst G;obtain⟨S,V⟩:=hx;have M:(a.eval x).cells.toList.length=cs.length:=by simpa using S
 obtain⟨cells,W,Y,Z,I⟩:=yN (act:={a with defers:=[]}) rfl F B p (vs:=(a.eval x).cells.toList) (j:=j) C g2 he (by omega) M (fun k y N=>by
  obtain⟨g,A,Q⟩:=V k y N;exact⟨g,by simpa using A,Q⟩) q
 have D: ∀g∈(a.eval x).cells,g.oneCell'=true:=fun g hu=>by
  obtain⟨k,U,rfl⟩:=abp hu;obtain⟨y,N⟩:=getElem?_of_lt (l:=cs) (k:=k) (by rw[<- S];exact U);obtain⟨g,A,Q,_⟩:=V k y N;rw[aao U]at A;injection A with A
  rw[A];exact Q
 have E:=sO (P:=P) (t:=t) (v:=a.eval x) (by rw[hn,S,K]) W (by simpa using Y) D;have I:aT X ρ _ a _:=I;have L: ∀R,(Instr.storeAt t (.pointer (some ⟨b,i*z.es+j,none⟩)) (a.eval x)).run P w= .ok () R->(execOp a.eval u).run P w= .ok .skip R:=fun R hr=>by
  unfold execOp;simp only[ho,g4];exact Sy hr
 exact⟨_,L _ E,RelR.put (s:=⟨s.tmps,aw s.H n ((s.H n).set m {z with elems:=z.elems.set i (putCells e j cs)})⟩) ⟨h1,F,by simpa using Z,by simpa using I⟩ ee⟩
theorem Pn {W:AS} (f:pw P u s=some W) (h:RelR ρ v w0 O X s a w):(∀c,u.op≠ .defer c)/\ ∃x b w',(execOp a.eval u).run P w= .ok x w'/\(x= .value b\/(x= .skip/\b=undef))/\RelR ρ v w0 O X W (a.put u.dst b) w':=by
 obtain⟨h1,ac,z,g⟩:=id h;have g:aT X ρ s a w:=g;unfold pw at f;split at f
 ·rename_i R;obtain⟨t,I,rfl⟩:=XI.1 f;obtain⟨b,D,E⟩:=uW (bf g) I;exact⟨fun c e=>(by rw[e]at R;cases R),_,b,w,D,.inl rfl,h.put E⟩
 split at f
 ·rename_i S;obtain⟨t,I,rfl⟩:=XI.1 f;obtain⟨b,D,E⟩:=u5 (bf g) z.objs I;exact⟨fun c e=>(by rw[e]at S;cases S),_,b,w,D,.inl rfl,h.put E⟩
 split at f
 case h_2=>cases f
 rename_i t ad x m;refine⟨fun c e=>(by rw[e]at m;cases m),?_⟩;split at f
 case h_2=>cases f
 rename_i fa r i j n q U;split at f
 case h_2=>cases f
 rename_i ob A;split at f
 case h_2=>cases f
 rename_i e T;split at f
 ·rename_i N V C len J;split at f
  case isFalse=>cases f
  rename_i F;obtain⟨rfl,aa,ab⟩:=F;injection f with f
  subst f;have B:=bf g x _ J;have l:(a.eval x).oneCell'=true:=Eb (ρ:=ρ) (H:=s.H) (X:=Xo X ρ s.H) (w:=w) (x:= .sl N V C len) (by simp) B;obtain⟨M,K,L⟩:=yO (P:=P) h m q U A T (cs:=[.sl N V C len]) (by simp;omega) (by omega) ⟨by rw[eH l];rfl,fun k y p=>by
   cases k with
   |succ k=>simp at p
   |zero=>simp at p;subst p;exact⟨a.eval x,by rw[eH l];rfl,l,B⟩⟩ (fun y p=>by simp at p;subst p;rfl)
  exact⟨_,undef,M,K,.inr ⟨rfl,rfl⟩,L⟩
 ·rename_i b hv J;split at f
  case h_2=>cases f
  rename_i cs G;split at f
  case isFalse=>cases f
  rename_i F;obtain⟨Y,Z,Q⟩:=F;injection f with f
  subst f;simp only[XO]at Q;obtain⟨M,K,L⟩:=yO (P:=P) h m q U A T Y Z (iL G (bf g x _ J)) (fun y p=>ck (Q y p));exact⟨_,undef,M,K,.inr ⟨rfl,rfl⟩,L⟩
 cases f
noncomputable def mf (P:Program):List Oper->Option AS->(AS->Prop)->Prop
 |_,none,_=>False
 |[],some s,K=>K s
 |o::l,some s,K=>mf P l (if o.guard.isNone then pw P o s else none) K
theorem yG (l:List Oper) (K:AS->Prop):mf P l none K=False:=by cases l<;>rfl
theorem Hj {ro:Option Nat} {n:Nat} {f:List Deferred} {ops:Array Oper} {Q:Exit->Act->World->Prop} {Ka:AS->Prop} (g: ∀s a w,Ka s->RelR ρ f w0 O X s a w->Q .normal a w): ∀(l:List Oper) (k:Nat) (s:AS) (a:Act) (w:World),(∀(j:Nat) o,l[j]?=some o->ops[k+j]?=some o)->
  mf P l (some s) Ka->RelR ρ f w0 O X s a w->wpOpsIn (FW ro) n P ops Q (List.range' k l.length) a w
 |[],k,s,a,w,_,h,r=>g s a w h r
 |o::l,k,s,a,w,m,h,r=>by
  simp only[Ym,YM];rw[wpOpsIn_cons];have u:ops[k]?=some o:=by have:=m 0 o rfl;simpa using this
  unfold wpOpIn;rw[u];simp only[mf]at h;split at h
  case isFalse=>rw[yG]at h;exact h.elim
  rename_i q;cases e:pw P o s with
  |none=>rw[e,yG]at h;exact h.elim
  |some A=>
   rw[e]at h;obtain⟨c,x,v,B,b,z,y⟩:=Pn e r;simp only;rw[if_pos (by simp[Region.wanted,Option.isNone_iff_eq_none.1 q])];refine⟨fun _ _=>trivial,?_⟩;rw[Oper.semAt_eq _ _ _ c,b];have p:=Hj (ro:=ro) (n:=n) g l (k+1) A _ B (fun j o t=>by have:=m (j+1) o (by simpa using t);rwa[show k+(j+1)=k+1+j by omega]at this) h y;rcases z with rfl|⟨rfl,rfl⟩
   ·exact p
   exact p
def uw (P:Program) (g:Option Nat) (ρ:Rho) (b:List Deferred) (c:Code) (Q:Exit->AS->Prop) (s:AS):Prop:=
 ∀(w0:World) (O X:Nat->Prop) (a:Act) (w:World),RelR ρ b w0 O X s a w->c.wpIn (FW g) 0 P (fun e f w'=> ∃s',Q e s'/\RelR ρ b w0 O X s' f w') a w
variable {ro:Option Nat} {ds:List Deferred} {Q:Exit->AS->Prop}
theorem Gi {id:Nat} (h:mf P b.toList (some s) (Q .normal)):uw P ro ρ ds (.region id b false) Q s:=fun w0 O X a w r=>by
 refine wpIn_region ?_;have:=Hj (ro:=ro) (n:=0) (ops:=b) (Q:=fun e c w'=> ∃s',Q e s'/\RelR ρ ds w0 O X s' c w') (fun s a w k r=>⟨s,k,r⟩) b.toList 0 s a w (fun j o f=>by simpa using f) h r;rwa[<- Ya,aaq]at this
theorem zj (h:uw P ro ρ ds f (iZ (uw P ro ρ ds g Q) Q) s):uw P ro ρ ds (.seq f g) Q s:=fun _ _ _ _ _ r=>
 wpIn_seq (wpIn_mono (h _ _ _ _ _ r) fun e a w ⟨s',b,c⟩=>by
  cases e with
  |normal=>exact b _ _ _ _ _ c
  |_=>exact⟨s',b,c⟩)
theorem K6 {id:Nat} (h: ∀K:AS->Prop,(∀s',uw P ro ρ ds f Q s'->K s')->mf P b.toList (some s) K):uw P ro ρ ds (.seq (.region id b false) f) Q s:=
 zj (Gi (h _ fun _ h=>h))
theorem K4 {id:Nat} (h: ∀K:AS->Prop,(∀s',Q .normal s'->K s')->mf P b.toList (some s) K):uw P ro ρ ds (.region id b false) Q s:=Gi (h _ fun _ h=>h)
theorem K5 (h:Q .normal s):uw P ro ρ ds .skip Q s:=fun _ _ _ _ _ r=>wpIn_skip ⟨s,h,r⟩
theorem Gj (h:Q .ret s):uw P ro ρ ds .ret Q s:=fun _ _ _ _ _ r=>wpIn_ret ⟨s,h,r⟩
theorem xF {id:Nat} (h:uw P ro ρ ds f (lP id Q) s):uw P ro ρ ds (.block id f) Q s:=fun _ _ _ _ _ r=>
 wpIn_block (wpIn_mono (h _ _ _ _ _ r) fun e a w ⟨s',b,c⟩=>by
  cases e with
  |exit g=>
   simp only[lP]at b;simp only[Exit.inBlock];split at b
   ·rename_i hid;rw[if_pos hid];exact⟨s',b,c⟩
   rename_i hid;rw[if_neg hid];exact⟨s',b,c⟩
  |_=>exact⟨s',b,c⟩)
theorem Bu (l:s.ev o=some (.raw (.bool x))) (p:x=true->uw P ro ρ ds f Q s) (m:x=false->uw P ro ρ ds g Q s):uw P ro ρ ds (.cond o f g) Q s:=fun _ _ _ _ _ r=>by
 obtain⟨q,n,e,b⟩:=id r;have j:=(aU (bf b o _ l)).1;exact wpIn_cond_split j (fun h=>p h _ _ _ _ _ r) (fun h=>m h _ _ _ _ _ r)
end
end
section
def ownB (b:Rho):Nat->Prop:=fun j=> ∃(x r c:Nat),b x r=some (j,c)
structure zc where
 l:Nat
 D:Nat
 fn:FuncId
 tm:Array Value
 ps:Array Tmp
 asg:Code
 bd:Code
def zc.loop (R:zc) (c:LoopState) (b:Option Code):Loop:={state:=c,pending:=b,fn:=R.fn,tmps:=R.tm,params:=R.ps,assign:=R.asg,body:=R.bd,defers:=R.D}
def zc.obj (R:zc) (b:Option Code):Obj:= .loop (R.loop (if b.isNone then .ready else .done) b)
def qa:TV->Bool
 | .one x=>gm x
 |_=>false
def wv (H:OH):Prop:= ∀a,∀o∈H a,∀e∈o.elems,∀x∈e,gm x=true
section
variable {P:Program} {w0 w w':World} {O X:Nat->Prop} {s s':AS} {a:Act} {ρ:Rho} {ds:List Deferred} {γ:Type}
theorem ww {A:OH} {Y:Nat->Prop} {x:AV} {v:Value} (z:gm x=true) (G: ∀(x r:Nat) (o:OObj),(y x)[r]?=some o-> ∃m:OObj,(A x)[r]?=some m/\m.es=o.es/\m.elems.length=o.elems.length) (h:AV.rel ρ y Y w x v):AV.rel ρ A l w' x v:=by
 have key: ∀x v,CH x=true->gm x=true->AV.rel ρ y Y w x v->AV.rel ρ A l w' x v:=fun x v S z h=>by
  cases x with
  |fn=>cases S
  |p x=>
   cases x with
   |raw u=>
    obtain⟨rfl,n⟩:=aU (ρ:=ρ) (H:=y) h;exact bO.raw _ n
   |sl D=>
    cases D with
    |nil=>
     have h:bO Y w (.sl []) v:=h;generalize q:PV.sl []=x at h;cases h with
     |raw v h=>cases q
     |ptr b t K f M N Q T=>cases q
     |nil a c=>exact bO.nil _ _
     |sl b t V cap D f M N R I W Q T=>
      injection q with q
      subst q;exact bO.nil _ _
    |cons e D=>cases z
   |ptr K=>cases z
  |sl b r t len=>
   obtain⟨o,n,E,F⟩:=h;obtain⟨m,B,C,U⟩:=G b r o n;exact⟨m,B,by omega,by rw[C];exact F⟩
  |ptr b r i j=>
   obtain⟨o,J,c,n,E,F,L⟩:=h;obtain⟨m,B,C,U⟩:=G b r o n;exact⟨m,J,c,B,E,by omega,by rw[C];exact L⟩
  |junk=>trivial
 exact jI (c:=fun x=>gm x=true) (g:=id) (fun _ _ _ _ _ _ _=>rfl) pU key x v z h
theorem Ax {c:OH} {f:Nat->Prop} (e:qa t=true) (g: ∀(x r:Nat) (o:OObj),(y x)[r]?=some o-> ∃b:OObj,(c x)[r]?=some b/\b.es=o.es/\b.elems.length=o.elems.length) (h:t.rel ρ y l w p):t.rel ρ c f w' p:=by
 cases t with
 |one x=>exact ww e g h
 |_=>cases e
theorem mg (H:OH): ∀(x r:Nat) (o:OObj),(H x)[r]?=some o-> ∃b:OObj,(H x)[r]?=some b/\b.es=o.es/\b.elems.length=o.elems.length:=fun _ _ o h=>⟨o,h,rfl,rfl⟩
theorem Cn (v:wv y) (h:Inv w0 O X y ρ w) (k: ∀j,ownB ρ j->w'.heap[j]?=w.heap[j]?) (f:Nat->Prop) (A: ∀j,f j->j<w'.heap.size) (m: ∀j,ownB ρ j-> ¬f j):Inv w' (ownB ρ) f y ρ w':=by
 refine⟨Keep.refl _,fun x r o n=>?_,h.inj,fun x r o b c n g=>⟨.inr ⟨x,r,c,g⟩,m b ⟨x,r,c,g⟩⟩,A,h.self⟩;obtain⟨G,I,l⟩:=h.objs x r o n;refine⟨G,I,?_⟩;cases g:ρ x r with
 |none=>rw[g]at l;exact l
 |some t=>
  obtain⟨b,c⟩:=t;rw[g]at l;obtain⟨cells,B,C,D,E,F⟩:=l;refine⟨cells,by rw[k b ⟨x,r,c,g⟩];exact B,C,D,E,fun i e j z p q=>?_⟩;obtain⟨u,J,K,L⟩:=F i e j z p q;exact⟨u,J,K,ww (v x o (XH n) e (XH p) z (XH q)) (mg y) L⟩
theorem RelR.turn (h:RelR ρ ds w0 O X s a w) (k: ∀j,¬X j->w'.heap[j]?=w.heap[j]?) (l:w.heap.size<=w'.heap.size):RelR ρ ds w' (ownB ρ) X s a w':=by
 obtain⟨B,C,f,y⟩:=h;have mono: ∀x v,AV.rel ρ s.H (Xo X ρ s.H) w x v->AV.rel ρ s.H (Xo X ρ s.H) w' x v:=pC fun x v I h=>by
  cases x with
  |fn=>cases I
  |p x=>exact bO.later (fun _ _ h=>h) l (fun p v hp q E=>by rw[<- E];exact iq (k p.block fun D=>q (.inl D))) h
  |sl x r L len=>exact h
  |ptr x r i j=>exact h
  |junk=>trivial
 refine⟨B,C,⟨Keep.refl _,fun x r o m=>?_,f.inj,fun x r o b c m g=>⟨.inr ⟨x,r,c,g⟩,(f.old x r o b c m g).2⟩,fun j G=>XZ (f.bar j G) l,f.self⟩,fun t x J=>?_⟩
 ·obtain⟨T,U,n⟩:=f.objs x r o m;refine⟨T,U,?_⟩;cases g:ρ x r with
  |none=>rw[g]at n;exact n
  |some A=>
   obtain⟨b,c⟩:=A;rw[g]at n;obtain⟨cells,M,N,Q,R,S⟩:=n;refine⟨cells,by rw[k b (f.old x r o b c m g).2];exact M,N,Q,R,fun i e j z F K=>?_⟩;obtain⟨u,V,W,Y⟩:=S i e j z F K;exact⟨u,V,W,mono z u Y⟩
 obtain⟨v,Z,v2⟩:=y t x J;exact⟨v,Z,TV.rel_map v2 mono⟩
def DL (R:zc) (ρ:Rho) (f:List TV) (H:γ->OH) (b:γ->Option Code) (A: ∀x r c,ρ x r≠some (R.l,c)) (z: ∀g,wv (H g)) (m:f.all qa=true):gM γ where
 B:=fun j=>j=R.l\/ownB ρ j
 G:=fun g _ w=>w.heap[R.l]?=some (R.obj (b g))/\RelR ρ [] w (ownB ρ) (fun j=>j=R.l) ⟨f,H g⟩ ⟨R.tm,[]⟩ w
 sp:=fun g _ w w' k _ ⟨o,p,q,u,y⟩=>by
  have h:w'.heap[R.l]?=some (R.obj (b g)):=by rw[k R.l (.inl rfl)];exact o
  refine⟨h,p,q,Cn (z g) u (fun j e=>k j (.inr e)) _ (fun j e=>by subst e;exact(XV.1 h).1) (fun j ⟨x,r,c,C⟩ e=>by subst e;exact A x r c C),fun t x n=>?_⟩;obtain⟨v,D,E⟩:=y t x n;simp only[XO]at m;exact⟨v,D,Ax (m x (XH n)) (mg _) E⟩
variable {R:zc} {tml:List TV} {H:γ->OH} {jump:γ->Option Code} {hl: ∀x r c,ρ x r≠some (R.l,c)} {hH: ∀g,wv (H g)} {ht:tml.all qa=true}
theorem F4 {g z:γ} {u:Value} (N:R.ps= #[n,m]) (hv1:p.oneCell'=true) (hv2:u.oneCell'=true) (D:jump g=none) (ac: ∀(f r:Nat) (o:OObj),(H g f)[r]?=some o-> ∃o':OObj,(H z f)[r]?=some o'/\o'.es=o.es/\o'.elems.length=o.elems.length) (hw:uw P (some R.l) ρ [] R.asg (fun e s1=>e= .normal/\uw P (some R.l) ρ [] R.bd (fun e s2=>s2.H=H z/\((e= .normal/\x=true/\jump z=none)\/(e= .ret/\x=false/\jump z=some .ret))) s1) ((AS.put ⟨tml,H g⟩ (some n) (.raw p)).put (some m) (.raw u))):
  rj P (DL R ρ tml H jump hl hH ht) R.l [p,u] g z x:=fun Y w ⟨T,V⟩=>by
 have aa:R.l<w.heap.size:=(XV.1 T).1;have M: ¬ownB ρ R.l:=fun⟨f,r,c,hr⟩=>hl f r c hr
 rw[D]at T;refine⟨R.fn,(R.tm.setIfInBounds n p).setIfInBounds m u,R.asg,R.bd,?_,?_⟩
 ·have:=run_yield (P:=P) (args:= #[p,u]) T (by show(#[p,u]:Array Value).size=R.ps.size;rw[N];rfl);rw[show([p,u]:List Value).toArray= #[p,u]from rfl,this];show Result.ok (Next.round R.l R.fn ((R.ps.zip #[p,u]).foldl _ R.tm) R.asg R.bd) w=_;rw[N];simp
 refine roundIn_of_wpIn (F:=FW none) trivial ?_;have r0:RelR ρ [] w (ownB ρ) (fun j=>j=R.l) ((AS.put ⟨tml,H g⟩ (some n) (.raw p)).put (some m) (.raw u)) {tmps:=(R.tm.setIfInBounds n p).setIfInBounds m u,defers:=[]} w:=
  (V.put (d:=some n) (v:=p) (bV hv1)).put (d:=some m) (v:=u) (bV hv2)
 refine wpIn_mono (hw _ _ _ _ _ r0) fun e a1 w1 ⟨s1,⟨W,hb⟩,r1⟩=>?_
 subst W;have k1:w1.heap[R.l]?=some (R.obj none):=by rw[r1.2.2.1.keep.block _ aa M];exact T
 refine⟨_,run_beginRound k1 rfl,?_⟩;generalize A:w1.putObj R.l _=w2;have L:R.l<w1.heap.size:=(XV.1 k1).1;have r2:RelR ρ [] w2 (ownB ρ) (fun j=>j=R.l) s1 a1 w2:=by
  subst A;exact r1.turn (fun j D=>World.putObj_heap_other D) (by simp)
 have k2:w2.heap[R.l]?=some (.loop (R.loop .busy none)):=by subst A;exact World.putObj_heap_same L
 refine wpIn_mono (hb _ _ _ _ _ r2) fun e a3 S ⟨s3,⟨ab,W⟩,r3⟩=>?_
 have k3:S.heap[R.l]?=some (.loop (R.loop .busy none)):=by
  rw[r3.2.2.1.keep.block _ (by subst A;simpa using L) M];exact k2
 have Z:R.l<S.heap.size:=(XV.1 k3).1;have U: ∀C,C=S.putObj R.l (R.obj (jump z))->Keep (fun j=>j=R.l\/ownB ρ j) w C/\C.heap[R.l]?=some (R.obj (jump z))/\RelR ρ [] C (ownB ρ) (fun j=>j=R.l) ⟨tml,H z⟩ ⟨R.tm,[]⟩ C:=fun C I=>by
  have r4:RelR ρ [] C (ownB ρ) (fun j=>j=R.l) s3 a3 C:=by
   subst I;exact r3.turn (fun j D=>World.putObj_heap_other D) (by simp)
  have q:=r1.2.2.1.keep;have y:=r3.2.2.1.keep;refine⟨?_,by subst I;exact World.putObj_heap_same Z,rfl,V.2.1,by have:=r4.2.2.1;rwa[ab]at this,fun t f hx=>?_⟩
  ·subst I A;refine⟨y.os.trans q.os,y.tape.trans q.tape,y.output.trans q.output,?_,fun j D hn=>?_⟩
   ·have:=q.size;have:=y.size;simp at this⊢;omega
   have J:j≠R.l:=fun h=>hn (.inl h)
   have K: ¬ownB ρ j:=fun h=>hn (.inr h)
   rw[World.putObj_heap_other J,y.block j (by have:=q.size;simp;omega) K,World.putObj_heap_other J,q.block j D K]
  obtain⟨v,u1,u2⟩:=V.2.2.2 t f hx;have Q:=ht;simp only[XO]at Q;exact⟨v,u1,Ax (Q f (XH hx)) ac u2⟩
 have B: ∀o,o=R.obj (jump z)->Keep (fun j=>j=R.l\/ownB ρ j) w (S.putObj R.l o)/\(DL R ρ tml H jump hl hH ht).G z Y (S.putObj R.l o):=fun o ho=>by subst ho;exact U _ rfl
 rcases W with⟨rfl,rfl,E⟩|⟨rfl,rfl,E⟩
 ·refine⟨_,_,run_endRound none k3,rfl,?_⟩;exact B _ (by rw[E];rfl)
 refine⟨_,_,run_endRound (some .ret) k3,rfl,?_⟩;exact B _ (by rw[E];rfl)
end
end
end Go.Proofs.YtalmoejhjceflaaGreat
