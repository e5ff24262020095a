/-
  Part 19 of a proof (walks and plain facts).
-/
import Derived.Test.YtalmoejhjceflaaGreatQ17
set_option linter.all false
set_option maxRecDepth 100000
set_option maxHeartbeats 64000000
namespace Go.Proofs.YtalmoejhjceflaaGreat
open Go.RowKit
variable {b c:List OObj} {n m:Nat} {e:Array Oper} {f:Nat->Prop} {g:FuncId} {h:TV} {j:Value} {w:World} {l:Rho} {o:Code} {p:Oper} {q:OH}
section
section
variable {P:Program} {k:Nat} {s s':AS} {Q:Exit->AS->Prop}
theorem Hp {c:List (cG P)} (q:iJ P c) {B:List Nat} {b:Array Oper} (t:f5 k b=true) {y:Value} {z:World} {O X:Nat->Prop} {Q:Exit->Act->World->Prop} {e:List Nat}: ∀(l:List Oper) (n:Nat) (s s':AS) (a:Act) (w:World),(∀(j:Nat) o,l[j]?=some o->b[n+j]?=some o)->
  gB P c B b (l.zipIdx n) s=some s'->md k y z O X s a w->(∀p m,md k y z O X s' p m->wpOps P b Q e p m)->wpOps P b Q (List.range' n l.length++e) a w
 |[],n,s,s',a,w,_,h,r,f=>by
  simp only[aek,gB]at h;injection h with h
  subst h;exact f a w r
 |o::l,n,s,s',a,w,u,h,r,f=>by
  simp only[adQ,gB]at h;split at h
  ·rename_i C g;simp only[acC,acW,ad9,wpOps];have x:b[n]?=some o:=by have:=u 0 o rfl;omega
   rw[x];simp only;have:=Ic (Q:=Q) q r (kJ t x) g (K:=wpOps P b Q (List.range' (n+1) l.length++e)) (fun v m A=>Hp q t l (n+1) C s' _ _ (fun j o D=>by have:=u (j+1) o (by grind);grind) h A f);grind
  cases h
structure UU (ops:Array Oper) (m:Nat) (f:FuncId) (args:List TV) (k n fa:Nat) (F:List OObj) (s:AS):Prop where
 ts:cwTs ops m s=some (f,args.set k (.one (.sl fa 0 0 n)))
 fam:s.H fa=F.map (renO fa)
def cmS (c:Array Oper) (m:Nat) (r:TV) (b:Nat) (e:List OObj) (s:AS):AS:=AS.put ⟨s.tmps.map (aT (kM b)),aF s.H b (e.map (renO b))⟩ (cwD c m) r
theorem Nx (t:Nat) {args:List TV} (D:iW P g args n m b c h) (K:Nat) (u:List (aq P)) (I:List Nat) {id:Nat} (z:f5 k e=true) (hk:n<args.length) (E:0<m) (A:iF n 0 args=true) (B: ∀o∈b,selfO 0 o) (y: ∀o∈c,selfO 0 o) (L:K<=4999) (hl:s.tmps.length<=1000000) (hm:t<e.toList.length) (q:aY P (u.map aq.a) I (aK e (e.toList.take t) 0) (some s) (fun H=>UU e t g args n m K b H/\H.tmps.length<=1000000/\aY P (u.map aq.a) I (aK e (e.toList.drop (t+1)) (t+1)) (some (cmS e t h K c H)) (Q .normal))):fX P k (.region id e false) Q s:=fun v0 w0 O X a w r0=>by
 obtain⟨H,V,⟨x,q2⟩,aa,W⟩:=aP P (u.map aq.a) I e _ 0 s _ q;obtain⟨s',Y,Z⟩:=aP P (u.map aq.a) I e _ (t+1) _ _ W;obtain⟨o,N⟩: ∃o,e[t]?=some o:=⟨e[t],by simp⟩;unfold cwTs at x;rw[N]at x;simp only at x;split at x
 ·rename_i l hg G;split at x
  ·rename_i f' C;split at x
   ·rename_i ts S;injection x with x
    injection x with x q3
    subst x q3;refine wp_region ?_;have R:e.size=(e.toList.take t).length+(1+(e.toList.drop (t+1)).length):=by grind
    rw[R,acK,<- ac7,acQ];have M:(e.toList.take t).length=t:=by grind
    refine Hp (aq.ok u) z (e.toList.take t) 0 s H a w (fun j o hj=>?_) V r0 fun J T U=>?_
    ·grind
    rw[M,adN 1,acW];simp only[wpOps,N];rw[if_pos (by simp[Region.wanted,hg])];refine .inl (GY U.1 G C D L hk E S A q2 B y fun v w1 ab=>?_);refine sW (aq.ok u) z (Q:=fun p J T=> ∃s',Q p s'/\md k v0 w0 O X s' J T) (e.toList.drop (t+1)) (t+1) _ s' _ _ (fun j o hj=>?_) Y ⟨?_,?_⟩ (fun J T hr=>⟨s',Z,hr⟩)
    ·grind
    ·grind [cwD,cmS]
    rw[n9 v (kJ z N)];exact U.2
   cases x
  cases x
 cases x
theorem yP (l:Nat) {args:List TV} (v:iW P g args n m b c h) (y:Nat) (p:List (aq P)) (B:List Nat) {id:Nat} (A:f5 k e=true) (C:n<args.length) (w:0<m) (t:iF n 0 args=true) (u: ∀o∈b,selfO 0 o) (q: ∀o∈c,selfO 0 o) (z:y<=4999) (D:s.tmps.length<=1000000) (E:l<e.toList.length) (j: ∀K:AS->Prop,(∀x,(UU e l g args n m y b x/\x.tmps.length<=1000000/\ ∀K:AS->Prop,(∀s',Q .normal s'->K s')->aY P (p.map aq.a) B (aK e (e.toList.drop (l+1)) (l+1)) (some (cmS e l h y c x)) K)->K x)->aY P (p.map aq.a) B (aK e (e.toList.take l) 0) (some s) K):fX P k (.region id e false) Q s:=
 Nx l v y p B A C w t u q z D E (j _ fun x ⟨G,H,I⟩=>⟨G,H,I _ fun _ j=>j⟩)
theorem FD (j:k<s.tmps.length) (h:fX P k o Q s):bA P o Q s:=fun m O X a w r=>by
 obtain⟨b,l⟩: ∃b,a.tmps[k]?=some b:=⟨a.tmps[k]'(by rw[r.2.1];exact j),by simp⟩;exact wp_mono (h b m O X a w ⟨r,l⟩) fun e n p ⟨s',f,g⟩=>⟨s',f,g.1⟩
end
end
section
section
variable {ρ ρ':Rho} {H H':OH} {Y Y':Nat->Prop} {w w':World} {d:Nat}
theorem O5 (n:selfTV 0 h) (b:h.rel ρ H Y w j) (k: ∀x j,bH 0 x->AV.rel ρ H Y w x j->AV.rel ρ' H' Y' w' (b6 d x) j):(renTV d h).rel ρ' H' Y' w' j:=by
 have agg: ∀l j,(∀x∈l,bH 0 x)->bM ρ H Y w l j->bM ρ' H' Y' w' (l.map (b6 d)) j:=fun l j C ⟨vs,o,y,q⟩=>by
  refine⟨vs,o,by grind,fun g x D=>?_⟩;grind
 cases h with
 |one x=>exact k x j n b
 |agg l=>exact agg l j n b
 |fn f l=>obtain⟨u,z,A⟩:=b;exact⟨u,agg l u n z,A⟩
 |tup E=>
  obtain⟨vs,o,y,q⟩:=b;refine⟨vs,o,by grind,fun g c l r=>?_⟩;rw[ach]at r;obtain⟨⟨p,m⟩,s,e⟩:=acf.1 r;simp at e;obtain⟨rfl,rfl⟩:=e;obtain⟨u,F,G⟩:=q g p m s;have B: ∀x∈m,bH 0 x:=n (p,m) (acd s);grind
theorem Km (n:selfTV 0 h) (b:(renTV d h).rel ρ H Y w j) (k: ∀x j,bH 0 x->AV.rel ρ H Y w (b6 d x) j->AV.rel ρ' H' Y' w' x j):h.rel ρ' H' Y' w' j:=by
 have agg: ∀m j,(∀x∈m,bH 0 x)->bM ρ H Y w (m.map (b6 d)) j->bM ρ' H' Y' w' m j:=fun m j E ⟨vs,p,s,q⟩=>by
  refine⟨vs,p,by grind,fun g x F=>?_⟩;obtain⟨u,r,o,D⟩:=q g (b6 d x) (by grind);grind
 cases h with
 |one x=>exact k x j n b
 |agg m=>exact agg m j n b
 |fn f m=>obtain⟨u,z,A⟩:=b;exact⟨u,agg m u n z,A⟩
 |tup G=>
  obtain⟨vs,p,s,q⟩:=b;refine⟨vs,p,by grind,fun g c m B=>?_⟩;obtain⟨u,r,o⟩:=q g c (m.map (b6 d)) (by grind);have C: ∀x∈m,bH 0 x:=n (c,m) (acd B);refine⟨u,r,?_⟩;rcases o with⟨o,D⟩|⟨o,x,e,I⟩
  ·grind
  cases m with
  |nil=>cases e
  |cons y l=>
   simp at e;grind
end
structure pn (P:Program) (f:FuncId) (args:List TV) (F F':List OObj) (r:TV):Prop where
 able:callable P f=true
 sA: ∀t∈args,selfTV 0 t
 sR:selfTV 0 r
 sF: ∀o∈F,selfO 0 o
 sF': ∀o∈F',selfO 0 o
 calls: ∀(X:Nat->Prop) (w:World) (vs:Array Value) (ρ:Rho),Inv w (famB F ρ) X (famH 0 F) ρ w->vs.size=args.length->
  (∀(j:Nat) t,args[j]?=some t-> ∃v:Value,vs[j]?=some v/\t.rel ρ (famH 0 F) (Xo X ρ (famH 0 F)) w v)->
  Calls P f vs w fun e w'=> ∃v,e= .returned v/\ ∃ρ':Rho,Inv w (famB F ρ) X (famH 0 F') ρ' w'/\r.rel ρ' (famH 0 F') (Xo X ρ' (famH 0 F')) w' v
def Y9 (P:Program) (c:Func) (b:List OObj) (r:TV) (s:AS):Prop:=s.H=famH 0 b/\rA P s c.results.toList=some r
theorem F5 {P:Program} {z:Func} {args:List TV} (O:P.funcs[g]?=some z) (N:z.body=some o) (R:callable P g=true) (V: ∀t∈args,selfTV 0 t) (Y:selfTV 0 h) (W: ∀l∈b,selfO 0 l) (sF': ∀l∈c,selfO 0 l) (j:bA P o (fun e s=>(e= .normal\/e= .ret)/\ ∃J,bJ s J/\Y9 P z c h J) ⟨args++List.replicate (z.ntmps-args.length) .undef,famH 0 b⟩):pn P g args b c h:=by
 refine⟨R,V,Y,W,sF',fun X w vs L p G D=>?_⟩;refine calls_of_wp O N ?_;have B:dq w (famB b L) X ⟨args++List.replicate (z.ntmps-args.length) .undef,famH 0 b⟩ {tmps:=vs++Array.replicate (z.ntmps-vs.size) undef,defers:=[]} w:=by
  refine⟨rfl,by simp[G],L,p,fun t x A=>?_⟩;by_cases ht:t<args.length
  ·grind
  rw[acD (by omega),ac5]at A;split at A
  ·rename_i Q;injection A with A
   subst A;refine⟨undef,?_,d6⟩;grind
  cases A
 refine wp_mono (j _ _ _ _ _ B) fun e M Z ⟨s1,⟨E,U,T,n,C⟩,q⟩=>?_
 obtain⟨I,S,y,m,u⟩:=T _ _ _ _ _ q;have u:bo X y U M Z:=u;rw[n]at m;obtain⟨v,K,H⟩:=fq (by rw[n];exact m) u C;rw[n]at H;rcases E with rfl|rfl
 ·exact⟨I,v,K,v,rfl,y,m,H⟩
 exact⟨I,v,K,v,rfl,y,m,H⟩
theorem pn.toC {P:Program} {args:List TV} {k:Nat} {y:TypeId} (m:pn P g args [⟨y,n,[]⟩] b h) (q:0<n) (A:args[k]?=some (.one (.sl 0 0 0 0))) (M:iF k 0 args=true):
  CallC P g (args.set k (.one (.p (.raw (.slice none 0 0))))) ⟨b,h⟩:=by
 refine⟨m.able,fun X w vs E I z=>?_⟩;have L:famB [⟨y,n,[]⟩] (fun _ _=>none)=fun _=>False:=by
  funext j;apply propext;constructor
  ·rintro⟨_,_,_,_,m⟩;cases m
  simp
 have D:Xo X (fun _ _=>none) (famH 0 [⟨y,n,[]⟩])=X:=by
  funext j;apply propext;constructor
  ·rintro(m|⟨_,_,_,_,_,m⟩)
   ·exact m
   cases m
  exact .inl
 have G:=(aci.1 A).1;have:=m.calls X w vs (fun _ _=>none) ⟨Keep.refl w,fun a h o x=>?_,fun a h J O o N l c K _ _ u=>(by cases u),fun a h o l c _ u=>(by cases u),E,fun a h o x=>?_⟩ (by grind) (fun j t s=>?_)
 ·grind
 ·obtain⟨rfl,rfl,rfl⟩:=BI x;exact⟨fun e q=>(by cases q),q,rfl⟩
 ·obtain⟨rfl,rfl,rfl⟩:=BI x;exact fun e q=>by cases q
 rw[D];by_cases F:j=k
 ·subst F;obtain⟨v,B,C⟩:=z j _ (acS G);rw[A]at s;injection s with s
  subst s;have:=(aZ (ρ:=fun _ _=>none) (H:=fun _=>[]) C).1;exact⟨v,B,_,rfl,by simp,.inl ⟨rfl,this,rfl,rfl⟩⟩
 obtain⟨v,B,C⟩:=z j t (by grind);grind [oY,mD]
def kF (b:Nat):Nat->Nat->Bool:=fun x _=>x==b
section
variable {P:Program} {s:AS} {a:Act} {w0 w:World} {O X:Nat->Prop}
theorem Cx {B:Nat->Prop} (h1:a.defers=[]) (bx:a.tmps.size=s.tmps.length) (D:Inv w0 O X s.H l w) (bR:bo X l s a w) (hB: ∀j,B j->O j/\X j) (sR:selfTV 0 h) (ap: ∀o∈b,selfO 0 o) (ag: ∀o∈c,selfO 0 o) (bh:n<=4999) (br:s.H n=b.map (renO n)):
  ∃(X1:Nat->Prop) (R:Rho),Inv w (fun j=>famB b R j\/B j) X1 (famH 0 b) R w/\(∀j,B j->X1 j)/\
   (∀t v,selfTV 0 t->(renTV n t).rel l s.H (Xo X l s.H) w v->t.rel R (famH 0 b) (Xo X1 R (famH 0 b)) w v)/\
   (∀j,famB b R j-> ∃(y:Nat) (o:OObj) (m:Nat),(s.H n)[y]?=some o/\l n y=some (j,m))/\
   (∀y,R 0 y=l n y)/\
   ∀v w1 S,Inv w (fun j=>famB b R j\/B j) X1 (famH 0 c) S w1->h.rel S (famH 0 c) (Xo X1 S (famH 0 c)) w1 v-> ∃J:Rho,(∀y,J n y=S 0 y)/\Inv w0 O X (aF s.H n (c.map (renO n))) J w1/\(∀x v,AV.rel l s.H (Xo X l s.H) w x v->AV.rel J (aF s.H n (c.map (renO n))) (Xo X J (aF s.H n (c.map (renO n)))) w1 (aR (kF n) x) v)/\(renTV n h).rel J (aF s.H n (c.map (renO n))) (Xo X J (aF s.H n (c.map (renO n)))) w1 v:=by
 have hF: ∀(y:Nat) E,(s.H n)[y]?=some E↔ ∃o,b[y]?=some o/\E=renO n o:=fun y E=>by
  grind
 let R:Rho:=fun x y=>if x=0 then l n y else none
 have af: ∀y,R 0 y=l n y:=fun y=>if_pos rfl
 let own:Nat->Prop:=famB b R
 have N: ∀j,own j↔ ∃(y:Nat) (E:OObj) (I:Nat),(s.H n)[y]?=some E/\l n y=some (j,I):=fun j=>by
  constructor
  ·rintro⟨y,o,I,K,M⟩;grind
  rintro⟨y,E,I,K,M⟩;obtain⟨o,g3,_⟩:=(hF y E).1 K;exact⟨y,o,I,g3,by grind⟩
 have bp: ∀j,own j->Xo X l s.H j:=fun j T=>by
  obtain⟨y,E,I,K,M⟩:=(N j).1 T;exact .inr ⟨n,y,E,I,K,M⟩
 let X1:Nat->Prop:=fun j=>Xo X l s.H j/\ ¬own j
 have a4: ∀j,Xo X l s.H j->j<w.heap.size:=fun f hb=>by
  rcases hb with hb|⟨x,y,E,C,K,M⟩
  ·exact D.bar f hb
  exact bz (D.objs x y E K) M
 have a7:Xo X1 R (famH 0 b)=Xo X l s.H:=by
  funext j;apply propext;constructor
  ·rintro(A|⟨x,y,E,I,K,M⟩)
   ·exact A.1
   grind [famH]
  intro A;by_cases T:own j
  ·obtain⟨y,E,I,K,M⟩:=T;exact .inr ⟨0,y,E,I,by grind [famH],M⟩
  exact .inl ⟨A,T⟩
 have f0: ∀(x y:Nat) E,(famH 0 b x)[y]?=some E->x=0/\b[y]?=some E:=fun x y E A=>by
  grind [famH]
 have al: ∀x v,bH 0 x->AV.rel l s.H (Xo X l s.H) w (b6 n x) v->AV.rel R (famH 0 b) (Xo X l s.H) w x v:=Cm fun x v hn W A=>by
  cases x with
  |fn=>cases hn
  |p x=>exact A
  |junk=>trivial
  |sl z y a9 len=>
   have W:z=0:=W;subst W;obtain⟨E,K,M,g3⟩:=A;obtain⟨Y,g4,rfl⟩:=(hF y E).1 K;exact⟨Y,by grind [famH],by grind [renO],qw bh g3 (af y)⟩
  |ptr z y i j=>
   have W:z=0:=W;subst W;obtain⟨E,b',I,K,M,g3,g5⟩:=A;obtain⟨Y,g4,rfl⟩:=(hF y E).1 K;exact⟨Y,b',I,by grind [famH],by grind,by grind [renO],g5⟩
 have a2: ∀j,B j->X1 j:=fun j T=>⟨.inl (hB j T).2,fun⟨y,E,I,K,M⟩=>(D.old n y _ j I ((hF y _).2 ⟨E,K,rfl⟩) (by grind)).2 (hB j T).2⟩
 have an:Inv w (fun j=>own j\/B j) X1 (famH 0 b) R w:=by
  refine⟨Keep.refl w,fun x y E G=>?_,fun x y x' y' o1 Y j c1 c2 aa L q1 q2=>?_,fun x y E j I G q=>?_,fun j T=>a4 j T.1,fun x y E G=>?_⟩
  ·obtain⟨rfl,G⟩:=f0 x y E G;rw[a7];obtain⟨z1,z2,z3⟩:=D.objs n y (renO n E) ((hF y _).2 ⟨E,G,rfl⟩);refine⟨fun e he=>?_,z2,?_⟩
   ·have:=z1 (e.map (b6 n)) (by grind [renO]);grind [renO]
   rw[af];cases hr:l n y with
   |none=>rw[hr]at z3;simpa[renO] using z3
   |some bc=>
    obtain⟨b',I⟩:=bc;rw[hr]at z3;obtain⟨cells,p1,p2,p3,p4,p5⟩:=z3;refine⟨cells,p1,p2,by grind [renO],p4,fun i e j z he hz=>?_⟩;obtain⟨u,u1,u2,u3⟩:=p5 i (e.map (b6 n)) j (b6 n z) (by simp[renO,he]) (by grind);exact⟨u,u1,u2,al z u (ap E (acd G) e (acd he) z (acd hz)) u3⟩
  ·obtain⟨rfl,aa⟩:=f0 x y o1 aa;obtain⟨rfl,L⟩:=f0 x' y' Y L;exact⟨rfl,(D.inj n y n y' _ _ j c1 c2 ((hF y _).2 ⟨o1,aa,rfl⟩) ((hF y' _).2 ⟨Y,L,rfl⟩) (by grind) (by grind)).2⟩
  ·grind
  grind
 refine⟨X1,R,an,a2,fun t v W A=>?_,fun j T=>(N j).1 T,af,?_⟩
 ·grind [Km]
 intro v w1 S hi bw;have f1: ∀(x y:Nat) E,(famH 0 c x)[y]?=some E->x=0/\c[y]?=some E:=fun x y E A=>by
  grind [famH]
 generalize a3:aF s.H n (c.map (renO n))=H1;generalize bq:(fun x y=>if x=n then S 0 y else l x y:Rho)=J;have bt:H1 n=c.map (renO n):=by rw[<- a3];exact aS
 have ab: ∀x,x≠n->H1 x=s.H x:=fun x A=>by rw[<- a3];exact aM A
 have U: ∀y,J n y=S 0 y:=fun y=>by grind
 have V: ∀x y,x≠n->J x y=l x y:=fun x y A=>by grind
 have Z: ∀(y:Nat) E,(H1 n)[y]?=some E↔ ∃o,c[y]?=some o/\E=renO n o:=fun y E=>by
  grind
 have ah: ∀j,j<w.heap.size-> ¬own j-> ¬B j->w1.heap[j]?=w.heap[j]?:=fun j T ae bn=>hi.keep.block j T fun A=>A.elim ae bn
 have ad: ∀(y:Nat) E j I,c[y]?=some E->S 0 y=some (j,I)->(w.heap.size<=j\/own j)/\ ¬X1 j:=fun y E j I K M=>by
  obtain⟨k1,k2⟩:=hi.old 0 y E j I (by grind [famH]) M;grind
 have bb: ∀j,j<w.heap.size->Xo X J H1 j->Xo X l s.H j:=fun j T A=>by
  rcases A with A|⟨x,y,E,I,K,M⟩
  ·exact .inl A
  by_cases Q:x=n
  ·grind
  rw[ab x Q]at K;rw[V x y Q]at M;exact .inr ⟨x,y,E,I,K,M⟩
 have a1: ∀x v,bS (Xo X l s.H) w x v->bS (Xo X J H1) w1 x v:=fun x v A=>bS.later (fun j T Q=>bb j T Q) hi.keep.size (fun p v hp ae hc=>by
  grind [gE]) A
 -- what the call says of the family, told of number n
 have av: ∀j,j<w1.heap.size->Xo X J H1 j->Xo X1 S (famH 0 c) j:=fun j _ A=>by
  rcases A with A|⟨x,y,E,I,K,M⟩
  ·have T:=D.bar j A;by_cases L:own j
   ·obtain⟨y,E,I,K,M⟩:=(N j).1 L;exact absurd A (D.old n y E j I K M).2
   exact .inl ⟨.inl A,L⟩
  by_cases Q:x=n
  ·subst Q;obtain⟨Y,g3,_⟩:=(Z y E).1 K;rw[U]at M;exact .inr ⟨0,y,Y,I,by grind [famH],M⟩
  rw[ab x Q]at K;rw[V x y Q]at M;by_cases L:own j
  ·obtain⟨y',Y,c2,k1,k2⟩:=(N j).1 L;exact absurd (D.inj x y n y' E Y j I c2 K k1 M k2).1 Q
  exact .inl ⟨.inr ⟨x,y,E,I,K,M⟩,L⟩
 have ba: ∀x v,bH 0 x->AV.rel S (famH 0 c) (Xo X1 S (famH 0 c)) w1 x v->AV.rel J H1 (Xo X J H1) w1 (b6 n x) v:=kj (c:=bH 0) (fun _ _ _ _ _ _ A=>A.1) (ny n) fun x v hn W A=>by
  cases x with
  |fn=>cases hn
  |p x=>exact bS.weaken (fun j T Q=>av j T Q) A
  |junk=>trivial
  |sl z y a9 len=>
   have W:z=0:=W;subst W;obtain⟨E,K,M,g3⟩:=A;obtain⟨_,K⟩:=f1 0 y E K;exact⟨renO n E,(Z y _).2 ⟨E,K,rfl⟩,by grind [renO],qw (by decide) g3 (U y)⟩
  |ptr z y i j=>
   have W:z=0:=W;subst W;obtain⟨E,b',I,K,M,g3,g5⟩:=A;obtain⟨_,K⟩:=f1 0 y E K;exact⟨renO n E,b',I,(Z y _).2 ⟨E,K,rfl⟩,by grind,by grind [renO],g5⟩
 have mono: ∀x v,AV.rel l s.H (Xo X l s.H) w x v->AV.rel J H1 (Xo X J H1) w1 (aR (kF n) x) v:=ic (oN _) fun x v hn A=>by
  cases x with
  |fn=>cases hn
  |p x=>exact a1 x v A
  |junk=>trivial
  |sl z y a9 len=>
   obtain⟨E,K,M,g3⟩:=A;simp only[aR];by_cases hz:z=n
   ·rw[if_pos (by simp[kF,hz])];trivial
   rw[if_neg (by simp[kF,hz])];exact⟨E,by grind,M,by grind⟩
  |ptr z y i j=>
   obtain⟨E,b',I,K,M,g3,g5⟩:=A;simp only[aR];by_cases hz:z=n
   ·rw[if_pos (by simp[kF,hz])];trivial
   rw[if_neg (by simp[kF,hz])];exact⟨E,b',I,by grind,by grind,g3,g5⟩
 have a0: ∀(z:Nat) x v,z≠n->bH z x->AV.rel l s.H (Xo X l s.H) w x v->AV.rel J H1 (Xo X J H1) w1 x v:=fun z x v hz W A=>by
  have:=mono x v A;cases x with
  |sl y _ _ _=>have W:y=z:=W;grind [aR,kF]
  |ptr y _ _ _=>have W:y=z:=W;grind [aR,kF]
  |fn _ y _=>have W:y=z:=W.1;grind [aR,kF]
  |p x=>exact this
  |junk=>trivial
 have bl:Inv w0 O X H1 J w1:=by
  refine⟨⟨hi.keep.os.trans D.keep.os,hi.keep.tape.trans D.keep.tape,hi.keep.output.trans D.keep.output,acl D.keep.size hi.keep.size,fun j T ae=>?_⟩,fun x y E G=>?_,fun x y x' y' o1 Y j c1 c2 aa L q1 q2=>?_,fun x y E j I G q=>?_,fun j T=>acp (D.bar j T) hi.keep.size,fun x y E G=>?_⟩
  ·rw[ah j (acp T D.keep.size) (fun A=>?_) (fun A=>ae (hB j A).1)]
   ·exact D.keep.block j T ae
   obtain⟨y,E,I,K,M⟩:=(N j).1 A;rcases(D.old n y E j I K M).1 with g|g
   ·omega
   grind
  ·by_cases Q:x=n
   ·subst Q;obtain⟨Y,g3,rfl⟩:=(Z y E).1 G;obtain⟨z1,z2,z3⟩:=hi.objs 0 y Y (by grind [famH]);refine⟨fun e he=>?_,z2,?_⟩
    ·grind [renO]
    rw[U];cases hr:S 0 y with
    |none=>grind [renO]
    |some bc=>
     obtain⟨b',I⟩:=bc;rw[hr]at z3;obtain⟨cells,p1,p2,p3,p4,p5⟩:=z3;refine⟨cells,p1,p2,by grind [renO],p4,fun i e j z he hz=>?_⟩;simp only[renO,ach]at he;obtain⟨e',a5,rfl⟩:=acf.1 he;rw[ach]at hz;obtain⟨z',a8,rfl⟩:=acf.1 hz;obtain⟨u,u1,u2,u3⟩:=p5 i e' j z' a5 a8;exact⟨u,u1,u2,ba z' u (ag Y (acd g3) e' (acd a5) z' (acd a8)) u3⟩
   rw[ab x Q]at G;have a6:=D.objs x y E G;obtain⟨z1,z2,z3⟩:=id a6;refine⟨z1,z2,?_⟩;rw[V x y Q];cases hr:l x y with
   |none=>grind
   |some bc=>
    obtain⟨b',I⟩:=bc;rw[hr]at z3;obtain⟨cells,p1,p2,p3,p4,p5⟩:=z3;refine⟨cells,?_,p2,p3,p4,fun i e j z he hz=>?_⟩
    ·rw[ah b' (bz a6 hr) (fun A=>?_) (fun A=>(D.old x y E b' I G hr).2 (hB b' A).2)]
     ·exact p1
     obtain⟨y',Y,c2,k1,k2⟩:=(N b').1 A;exact Q (D.inj x y n y' E Y b' I c2 G k1 hr k2).1
    obtain⟨u,u1,u2,u3⟩:=p5 i e j z he hz;exact⟨u,u1,u2,a0 x z u Q (D.self x y E G e (acd he) z (acd hz)) u3⟩
  ·by_cases Q:x=n
   ·subst Q;obtain⟨o3,g3,_⟩:=(Z y o1).1 aa;rw[U]at q1;by_cases ac:x'=x
    ·subst ac;obtain⟨o4,g4,_⟩:=(Z y' Y).1 L;rw[U]at q2;exact⟨rfl,(hi.inj 0 y 0 y' o3 o4 j c1 c2 (by grind [famH]) (by grind [famH]) q1 q2).2⟩
    rw[ab x' ac]at L;rw[V x' y' ac]at q2;exfalso;have bm:=bz (D.objs x' y' Y L) q2;rcases(ad y o3 j c1 g3 q1).1 with g|g
    ·omega
    obtain⟨y3,o5,c5,k1,k2⟩:=(N j).1 g;exact ac (D.inj x' y' x y3 Y o5 j c2 c5 L k1 q2 k2).1
   rw[ab x Q]at aa;rw[V x y Q]at q1;by_cases ac:x'=n
   ·subst ac;obtain⟨o4,g4,_⟩:=(Z y' Y).1 L;rw[U]at q2;exfalso;have bm:=bz (D.objs x y o1 aa) q1;rcases(ad y' o4 j c2 g4 q2).1 with g|g
    ·omega
    obtain⟨y3,o5,c5,k1,k2⟩:=(N j).1 g;exact Q (D.inj x y x' y3 o1 o5 j c1 c5 aa k1 q1 k2).1
   rw[ab x' ac]at L;rw[V x' y' ac]at q2;exact D.inj x y x' y' o1 Y j c1 c2 aa L q1 q2
  ·by_cases Q:x=n
   ·subst Q;obtain⟨o3,g3,_⟩:=(Z y E).1 G;rw[U]at q;rcases(ad y o3 j I g3 q).1 with g|g
    ·refine⟨.inl (acl D.keep.size g),fun hX=>?_⟩;have:=D.bar j hX;omega
    obtain⟨y3,o5,c5,k1,k2⟩:=(N j).1 g;exact D.old x y3 o5 j c5 k1 k2
   rw[ab x Q]at G;rw[V x y Q]at q;exact D.old x y E j I G q
  by_cases Q:x=n
  ·subst Q;obtain⟨o3,g3,rfl⟩:=(Z y E).1 G;intro e he z hz;simp only[renO,acn]at he;grind [dM]
  rw[ab x Q]at G;exact D.self x y E G
 grind [O5]
theorem sn {B:Nat->Prop} (S:a.defers=[]) (J:a.tmps.size=s.tmps.length) (C:Inv w0 O X s.H l w) (D:bo X l s a w) (T: ∀j,B j->O j/\X j) (Z:selfTV 0 h) (q: ∀o∈b,selfO 0 o) (m: ∀o∈c,selfO 0 o) (I:n<=4999) (A:s.H n=b.map (renO n)):
  ∃(p:Nat->Prop) (f:Rho),Inv w (fun j=>famB b f j\/B j) p (famH 0 b) f w/\(∀j,B j->p j)/\
   (∀t v,selfTV 0 t->(renTV n t).rel l s.H (Xo X l s.H) w v->t.rel f (famH 0 b) (Xo p f (famH 0 b)) w v)/\
   (∀j,famB b f j-> ∃(y:Nat) (o:OObj) (e:Nat),(s.H n)[y]?=some o/\l n y=some (j,e))/\
   ∀v z g,Inv w (fun j=>famB b f j\/B j) p (famH 0 c) g z->h.rel g (famH 0 c) (Xo p g (famH 0 c)) z v-> ∀d,dq w0 O X (AS.put ⟨s.tmps.map (aT (kF n)),aF s.H n (c.map (renO n))⟩ d (renTV n h)) (a.put d v) z:=by
 obtain⟨p,f,L,M,N,Q,_,R⟩:=Cx S J C D T Z q m I A;refine⟨p,f,L,M,N,Q,fun v z g U V d=>?_⟩;obtain⟨G,_,k1,k2,Y⟩:=R v z g U V;have E:bo X G ⟨s.tmps.map (aT (kF n)),aF s.H n (c.map (renO n))⟩ a z:=fun t x K=>by
  simp only[ach]at K;obtain⟨y,W,rfl⟩:=acf.1 K;obtain⟨u,u1,u2⟩:=D t y W;grind [sE]
 exact⟨by grind [gX],by grind [kK,ke],G,by grind [gP],qo (s:=⟨s.tmps.map (aT (kF n)),aF s.H n (c.map (renO n))⟩) (by grind) E Y⟩
theorem RE (E:dq w0 O X s a w) {l:Call} (Y:p.op= .call l) (A:l.callee= .value (.func g)) {args:List TV} (q:pn P g args b c h) (J:n<=4999) (I:fz s.ev l.args.toList=some (args.map (renTV n))) (C:s.H n=b.map (renO n)) {K:Act->World->Prop} {Q:Exit->Act->World->Prop} (hK: ∀v R,dq w0 O X (AS.put ⟨s.tmps.map (aT (kF n)),aF s.H n (c.map (renO n))⟩ p.dst (renTV n h)) (a.put p.dst v) R->K (a.put p.dst v) R):p.wp P a w K Q:=by
 obtain⟨W,L,ρ,D,u⟩:=E;have u:bo X ρ s a w:=u;obtain⟨e1,U⟩:=bP I;obtain⟨S,z,N,_,V,_,g4⟩:=sn (B:=fun _=>False) W L D u (fun _ m=>m.elim) q.sR q.sF q.sF' J C;have T:(fun j=>famB b z j\/False)=famB b z:=funext fun j=>propext (or_iff_left id)
 rw[T]at N;have G:=fW (w:=w) Y A (e:=a.eval) rfl q.able;unfold Oper.wp;rw[G];simp only[Oper.upon];have x:l.args.size=args.length:=by grind
 refine(q.calls S w (l.args.map a.eval) z N (by simp[x]) ?_).mono ?_
 ·intro j t Z;obtain⟨y,hy,M⟩:=U j (renTV n t) (by grind);refine⟨a.eval y,?_,V t _ (q.sA t (acd Z)) (bv u y _ M)⟩;grind
 grind
structure aa7 (ops:Array Oper) (m:Nat) (f:FuncId) (args:List TV) (fa:Nat) (F:List OObj) (s:AS):Prop where
 ts:cwTs ops m s=some (f,args.map (renTV fa))
 fam:s.H fa=F.map (renO fa)
def Q2 (c:Array Oper) (m:Nat) (r:TV) (b:Nat) (e:List OObj) (s:AS):AS:=AS.put ⟨s.tmps.map (aT (kF b)),aF s.H b (e.map (renO b))⟩ (cwD c m) (renTV b r)
theorem Ns (m:Nat) {args:List TV} (A:pn P g args b c h) (v:Nat) (p:List (aq P)) (t:List Nat) {id:Nat} {Q:Exit->AS->Prop} (G:v<=4999) (T:m<e.toList.length) (n:aY P (p.map aq.a) t (aK e (e.toList.take m) 0) (some s) (fun u=>aa7 e m g args v b u/\aY P (p.map aq.a) t (aK e (e.toList.drop (m+1)) (m+1)) (some (Q2 e m h v c u)) (Q .normal))):bA P (.region id e false) Q s:=fun w0 O X a w J=>by
 obtain⟨u,D,⟨q,U⟩,E⟩:=aP P (p.map aq.a) t e _ 0 s _ n;obtain⟨W,M,N⟩:=aP P (p.map aq.a) t e _ (m+1) _ _ E;obtain⟨o,B⟩: ∃o,e[m]?=some o:=⟨e[m],by simp⟩;unfold cwTs at q;rw[B]at q;simp only at q;split at q
 ·rename_i l R C;split at q
  ·rename_i L z;split at q
   ·rename_i Y H;injection q with q
    injection q with q I
    subst q I;refine wp_region ?_;have y:e.size=(e.toList.take m).length+(1+(e.toList.drop (m+1)).length):=by grind
    rw[y,acK,<- ac7,acQ];have x:(e.toList.take m).length=m:=by grind
    refine kN (aq.ok p) (e.toList.take m) 0 s u a w (fun j o S=>?_) D J fun K Z V=>?_
    ·grind
    rw[x,adN 1,acW];simp only[wpOps,B];grind [Region.wanted,RE,gn,aq.ok,cwD,Q2]
   cases q
  cases q
 cases q
theorem yL (m:Nat) {args:List TV} (n:pn P g args b c h) (p:Nat) (l:List (aq P)) (u:List Nat) {id:Nat} {Q:Exit->AS->Prop} (t:p<=4999) (x:m<e.toList.length) (j: ∀K:AS->Prop,(∀q,(aa7 e m g args p b q/\ ∀K:AS->Prop,(∀v,bA P o Q v->K v)->aY P (l.map aq.a) u (aK e (e.toList.drop (m+1)) (m+1)) (some (Q2 e m h p c q)) K)->K q)->aY P (l.map aq.a) u (aK e (e.toList.take m) 0) (some s) K):bA P (.seq (.region id e false) o) Q s:=
 ai (Ns m n p l u t x (j _ fun q ⟨z,A⟩=>⟨z,A _ fun _ j=>j⟩))
end
end
section
section
variable {P:Program} {k:Nat} {s s':AS} {Q:Exit->AS->Prop}
theorem zW {x:AV} (z:(q n).length<=1) (h:AV.rel l q f w x j):aR (kM n) x=x:=by
 cases x with
 |fn e a A=>
  obtain⟨vs,_,u,_,y⟩:=h;refine if_neg ?_;grind [kM,List.mem_iff_getElem?]
 |p x=>rfl
 |junk=>rfl
 |sl a r t len=>
  obtain⟨o,m,_⟩:=h;refine if_neg ?_;grind [kM]
 |ptr a r i g=>
  obtain⟨o,b,c,m,_⟩:=h;refine if_neg ?_;grind [kM]
theorem wg {b:List AV} (e:(q n).length<=1) (h:bM l q f w b j):b.map (aR (kM n))=b:=by
 obtain⟨vs,_,_,c⟩:=h
 conv=>rhs;rw[<- adL b]
 grind [List.map_congr_left,List.getElem?_of_mem,zW]
theorem R8 (e:(q n).length<=1) (c:h.rel l q f w j):aT (kM n) h=h:=by
 cases h with
 |one x=>exact congrArg TV.one (zW e c)
 |agg g=>exact congrArg TV.agg (wg e c)
 |fn b g=>obtain⟨u,m,_⟩:=c;exact congrArg (TV.fn b) (wg e m)
 |tup o=>
  obtain⟨vs,_,_,p⟩:=c;refine congrArg TV.tup ?_
  conv=>rhs;rw[<- adL o]
  grind [List.map_congr_left,List.getElem?_of_mem,wg,zW]
theorem Ok {b:World} {X:Nat->Prop} {a:Act} (e:(s.H n).length<=1) (h:dq w f X s a b):s.tmps.map (aT (kM n))=s.tmps:=by
 obtain⟨_,_,g,_,c⟩:=h
 conv=>rhs;rw[<- adL s.tmps]
 grind [List.map_congr_left,List.getElem?_of_mem,R8]
def PY (b:Nat) (c:List OObj) (s:AS):AS:=⟨s.tmps,aF s.H b (c.map (renO b))⟩
def cm1 (b:Array Oper) (m:Nat) (r:TV) (e:Nat) (c:List OObj) (s:AS):AS:=AS.put (PY e c s) (cwD b m) r
theorem xU {d:Option Tmp}:PY n b (s.put d h)=(PY n b s).put d h:=by cases d<;>rfl
def ZS (b:Array Oper) (m:Nat):Bool:=(match b[m]? with|some o=>o.dst.isSome|none=>false)&&((List.range m).all fun i=>((pz b.toList []).getD m 0).testBit i)&&
 (List.range b.size).all fun j=>decide (j<=m)||(((pz b.toList []).getD j 0).testBit m&&match b[j]? with|some o=>pF o.op&&o.guard.isNone|none=>false)
theorem KF {b:List (cG P)} {c:List Nat} {i:Nat} (f:pF p.op=true) (g:p.guard=none):be P b c e i p s=(jV P s.ev p.op).map (s.put p.dst):=by
 grind [be,dY]
theorem Da {M:cG P} {f:List (cG P)} {g:List Nat} {i:Nat} (j:M.i≠i):be P (M::f) g e i p s=be P f g e i p s:=by
 have b:(M::f).find? (·.i==i)=f.find? (·.i==i):=by
  grind
 have h: ∀(d:Nat) (ev:Operand->Option TV) (H:OH) (op:Op),cB P (M::f) g i d ev H op=cB P f g i d ev H op:=fun d ev H op=>by
  cases op with
  |call c=>
   grind [cB]
  |_=>rfl
 unfold be dY;simp only[h]
theorem Hr {M:cG P} {b:List (cG P)} {e:List Nat} {c:Array Oper}: ∀(l:List Nat) (s:AS),(∀i∈l,M.i≠i)->cY P (M::b) e c l s=cY P b e c l s
 |[],_,_=>rfl
 |i::l,s,h=>by
  simp only[cY];have:dB P (M::b) e c i s=dB P b e c i s:=by
   grind [dB,Da]
  rw[this];cases dB P b e c i s with
  |none=>rfl
  |some g=>exact Hr l g fun j f=>h j (by simp[f])
theorem MN {f:Nat} {e:List OObj} {w it':List (cG P)} {n:List Nat} {b:Array Oper}: ∀(l:List Nat) (s s':AS),(∀j∈l,∃o,b[j]?=some o/\pF o.op=true/\o.guard=none)->cY P w n b l (PY f e s)=some s'-> ∃t,cY P it' n b l s=some t/\s'=PY f e t
 |[],s,s',_,h=>by
  grind [cY]
 |j::l,s,s',g,h=>by
  obtain⟨o,q,r,u⟩:=g j (by simp);simp only[cY]at h⊢;obtain⟨y,c,p⟩:=acG.1 h;unfold dB at c⊢;rw[q]at c⊢;simp only at c⊢;rw[KF r u]at c⊢;obtain⟨t,x,m⟩:=acf.1 c;rw[show jV P (AS.ev s) o.op=some t from x];rw[<- xU]at m;subst m;simp only[adB,aeb];exact MN l _ _ (fun i v=>g i (by simp[v])) p
theorem uR {m:Nat} {p:Nat->Bool} (g:m<=n) (b: ∀j,j<m->p j=true) (f: ∀j,j<n->m<=j->p j=false):mU n p=List.range m:=by
 unfold mU;have e:List.range n=List.range m++List.range' m (n-m):=by
  have:=ac7 (s:=0) (m:=m) (n:=n-m);grind [List.range_eq_range']
 rw[e,afe,agz.2 (fun j c=>b j (acV.1 c)),aeo.2,adc];grind
theorem Ny (bm:P.follows .mixedOrders=true) (z:Nat) {args:List TV} (af:iW P g args n m b c (.raw j)) (E:Nat) (A:List (aq P)) (S:List Nat) {id:Nat} (hd:bZ [] e=true) (Y:f5 k e=true) (hE:ZS e z=true) (hk:n<args.length) (av:0<m) (L:iF n 0 args=true) (aa: ∀o∈b,selfO 0 o) (V: ∀o∈c,selfO 0 o) (ba:E<=4999) (hF:b.length=1) (ad:b.all (fun o=>o.elems.all fun q=>q.all isPure)=true) (hm:z<e.size) (h:aY P (A.map aq.a) S (aK e (e.toList.take z) 0) (some s) (fun N=>UU e z g args n m E b N/\aY P [] S (aK e (e.toList.drop (z+1)) (z+1)) (some (cm1 e z (.raw j) E c N)) (Q .normal))):fX P k (.region id e true) Q s:=fun v0 w0 O X a w r=>by
 obtain⟨N,h1,⟨C,q2⟩,h2⟩:=aP P (A.map aq.a) S e _ 0 s _ h;obtain⟨s2,h3,h4⟩:=aP P [] S e _ (z+1) _ _ h2;obtain⟨o,ho⟩: ∃o,e[z]?=some o:=⟨e[z],by simp[hm]⟩;have bx:cwD e z=o.dst:=by grind [cwD]
 unfold cwTs at C;rw[ho]at C;simp only at C;split at C
 case h_2=>cases C
 rename_i l hg J;split at C
 case h_2=>cases C
 rename_i f' G;split at C
 case h_2=>cases C
 rename_i ts a3;injection C with C
 injection C with C q3
 subst C q3;simp only[ZS,acN,acr,acV,aeg,decide_eq_true_eq]at hE;obtain⟨⟨ac,b5⟩,a7⟩:=hE;rw[ho]at ac;obtain⟨d,ag⟩:=af1.1 ac;have bl:(N.H E).length=1:=by grind
 let M:cG P:=⟨z,f',(args.set n (.one (.sl E 0 0 m))).map (lk N.H),⟨[],.raw j⟩⟩
 -- the operations ahead
 have ci:(e.toList.take z).length=z:=by grind
 have g1:cY P (A.map aq.a) S e (List.range z) s=some N:=by
  grind [gJ,List.range_eq_range']
 have a6:cY P (M::A.map aq.a) S e (List.range z) s=some N:=by
  grind [Hr]
 -- the call, as if it left memory as it is
 have W:be P (M::A.map aq.a) S e z o N=some (N.put o.dst (.raw j)):=by
  obtain⟨dst,op,bR,pos,bt,b0⟩:=o;simp only at J hg ag;subst J hg ag;obtain⟨callee,a5,cl⟩:=l;simp only at G;subst G;have bn:(args.set n (.one (.sl E 0 0 m))).all (iB true N.H)=true:=by
   rw[acr];intro t ht;obtain⟨y,I⟩:=List.getElem?_of_mem ht;by_cases ap:y=n
   ·subst ap;rw[acS hk]at I;injection I with I
    subst I;obtain⟨o1,a8⟩: ∃o1,b=[o1]:=List.length_eq_one_iff.1 hF;subst a8;simp only[iB,q2,acA,acT,adZ,afv,renO];simp only[List.all_cons,List.all_nil,agC,acr]at ad;rw[List.all_map,acr];intro q he;simp only[Function.comp,List.all_map,acr];intro x hx;have:=ad q he x hx;cases x<;>first|rfl|cases this
   rw[ac4 (aed ap)]at I;have:=mD (i:=0) L (by omega) I;cases t with
   |one x=>cases x<;>first|rfl|cases this
   |agg cs=>exact this
   |fn u cs=>exact this
   |tup ts=>cases this
  simp only[be,dY,pF,VU,Bw,iv,cB,ada,if_false,agi,beq_self_eq_true,M,a3];rw[if_pos ⟨trivial,trivial,bn,rfl⟩];rfl
 have a4:List.range e.size=List.range z++z::List.range' (z+1) (e.size-(z+1)):=by
  have:=ac7 (s:=0) (m:=z) (n:=e.size-z);rw[show z+(e.size-z)=e.size by omega,acQ,show e.size-z=e.size-(z+1)+1 by omega,acW]at this;grind [List.range_eq_range']
 have ah: ∀y,z<y->y<e.size->((pz e.toList []).getD y 0).testBit z=true/\ ∃o,e[y]?=some o/\pF o.op=true/\o.guard=none:=fun y bh an=>by
  rcases a7 y an with h|⟨h,h'⟩
  ·omega
  simp_all
 have g2:cY P [] S e (List.range' (z+1) (e.size-(z+1))) (PY E c (N.put o.dst (.raw j)))=some s2:=by
  grind [gJ,cm1,xU]
 obtain⟨sF,g3,rfl⟩:=MN (it':=M::A.map aq.a) _ _ _ (fun y I=>by
  grind) g2
 have a2:cY P (M::A.map aq.a) S e (List.range e.size) s=some sF:=by
  grind [i6,cY,dB]
 refine wp_region_any bm ?_;have a0:md k v0 w0 O X s a {w with drawn:=w.drawn+1}:=by
  obtain⟨⟨C,q2,ρ,al,ab⟩,R⟩:=r;have q:Ext w {w with drawn:=w.drawn+1}:=⟨rfl,rfl,rfl,acs _,fun _ _=>rfl⟩;have ab:bo X ρ s a w:=ab;exact⟨⟨C,q2,ρ,al.grow q,ab.grow q⟩,R⟩
 refine oc (sep:=[]) (lZ hd (by simp)) hd (Q:=fun q a' w'=> ∃s',Q q s'/\md k v0 w0 O X s' a' w') (fun p s a w=>md k v0 w0 O X (if p z then PY E c s else s) a w) ⟨fd r.1,fun x hx=>by simp at hx⟩ a2 (fun p a w bw U=>⟨_,h4,by
  grind⟩) (fun p i o' s' br a w K B bp a9 R U hK=>?_) e.size (Array.replicate e.size false) s a _ (by simp) ?_ ?_ ?_ ?_
 ·obtain⟨hc,cc,D⟩:=a9;have bb:i<e.size:=(acB.1 B).1;have ae:dH p i i=true:=by simp[dH]
  rcases adE i z with T|T|T
  ·have Z:p z=false:=by
    grind [jh]
   rw[Z]at U;rw[Da (show z≠i by omega)]at R;have cg:(z==i)=false:=by simp;omega
   exact Ic (aq.ok A) U (kJ Y B) R fun v w' a0=>hK v w' (by grind [dH])
  ·subst T;rw[ho]at B;injection B with B
   subst B;have bq:mU e.size p=List.range i:=uR (by omega) (fun y I=>by
    grind [jh,dH]) (fun y bh an=>by
    grind [jh])
   rw[bq,a6]at D;injection D with D
   subst D;rw[W]at R;injection R with R
   subst R;rw[bp,if_neg (by decide)]at U;rw[if_pos (by simp[Region.wanted,hg])];refine GY U.1 J G af ba hk av a3 L q2 aa V fun v w1 a1=>hK v w1 ?_
   rw[Ok (by omega) U.1]at a1;rw[if_pos ae,xU];exact⟨a1,by rw[n9 v (kJ Y ho)];exact U.2⟩
  obtain⟨b1,o2,b2,b3,b4⟩:=ah i T bb;rw[B]at b2;injection b2 with b2
  subst b2;have Z:p z=true:=by
   grind [jh,dH]
  rw[Z]at U;rw[KF b3 b4]at R;obtain⟨t,c1,c2⟩:=acf.1 R;have:be P [] S e i o' (PY E c s')=some (PY E c br):=by
   rw[KF b3 b4,show jV P (PY E c s').ev o'.op=some t from c1,<- c2,xU];rfl
  exact Ic (fun it bc=>by simp at bc) U (kJ Y B) this fun v w' a0=>hK v w' (by grind [dH])
 ·intro y o ho hp;have I:y<e.size:=(acB.1 ho).1;simp_all
 ·grind
 ·have:mU e.size (fun y=>(Array.replicate e.size false).getD y true)=[]:=by
   unfold mU;rw[aeo];intro y I;have:=acV.1 I;simp[this]
  rw[this];rfl
 simp_all
theorem yQ (E:P.follows .mixedOrders=true) (p:Nat) {args:List TV} (w:iW P g args n m b c (.raw j)) (z:Nat) (r:List (aq P)) (G:List Nat) {id:Nat} (J:bZ [] e=true) (D:f5 k e=true) (H:ZS e p=true) (L:n<args.length) (x:0<m) (u:iF n 0 args=true) (v: ∀q∈b,selfO 0 q) (t: ∀q∈c,selfO 0 q) (C:z<=4999) (I:b.length=1) (B:b.all (fun q=>q.elems.all fun l=>l.all isPure)=true) (M:p<e.size) (h: ∀K:AS->Prop,(∀A,(UU e p g args n m z b A/\ ∀K:AS->Prop,(∀s',fX P k o Q s'->K s')->aY P [] G (aK e (e.toList.drop (p+1)) (p+1)) (some (cm1 e p (.raw j) z c A)) K)->K A)->aY P (r.map aq.a) G (aK e (e.toList.take p) 0) (some s) K):fX P k (.seq (.region id e true) o) Q s:=
 bG (Ny E p w z r G J D H L x u v t C I B M (h _ fun A ⟨N,O⟩=>⟨N,O _ fun _ h=>h⟩))
end
end
end Go.Proofs.YtalmoejhjceflaaGreat
