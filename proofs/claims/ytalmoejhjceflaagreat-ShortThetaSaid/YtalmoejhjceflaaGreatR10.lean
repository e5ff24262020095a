/-
  Part 11 of a proof (walks and plain facts).
-/
import Derived.Test.YtalmoejhjceflaaGreatR09
set_option linter.all false
set_option maxRecDepth 100000
set_option maxHeartbeats 64000000
open List renaming replicate → ae
namespace Go.Proofs.YtalmoejhjceflaaGreat
open Go.RowKit
variable {b c:List OObj} {n m:Nat} {e:Nat->Prop} {f:Array Oper} {g:FuncId} {h:TV} {j:Value} {w:World} {l:Rho} {o:OH} {p:Code} {P:Program} {q:Oper}
section
def tB:TV->Bool
 | .one (.p _)=>true
 | .agg b=>b.all isPure
 | .fn _ b=>b.all isPure
 |_=>false
theorem qc {n:Rho} {y:OH} {q:Nat->Prop} (A: ∀b,q b->e b) (r:tB h=true) (c:h.rel l o e w j):h.rel n y q w j:=by
 have C: ∀x u,isPure x=true->AV.rel l o e w x u->AV.rel n y q w x u:=fun x u s J=>by
  cases x with
  |p x=>exact bQ.weaken (fun b _ z=>A b z) J
  |_=>cases s
 have agg: ∀m j,m.all isPure=true->bI l o e w m j->bI n y q w m j:=fun m j B ⟨vs,D,E,F⟩=>by
  simp only[aah]at B;exact⟨vs,D,E,fun g x s=>by obtain⟨u,K,L,M⟩:=F g x s;exact⟨u,K,L,C x u (B x (u5 s)) M⟩⟩
 cases h with
 |one x=>
  cases x with
  |p x=>exact bQ.weaken (fun b _ z=>A b z) c
  |_=>cases r
 |agg m=>exact agg m j r c
 |fn f m=>obtain⟨u,G,I⟩:=c;exact⟨u,agg m u r G,I⟩
 |tup N=>cases r
def gN (k:Nat):Nat->List TV->Bool
 |_,[]=>true
 |i,t::l=>(i==k||tB t)&&gN k (i+1) l
theorem lh {k:Nat}: ∀{l:List TV} {i j:Nat} {t:TV},gN k i l=true->i+j≠k->l[j]?=some t->tB t=true
 |[],_,_,_,_,_,h=>by simp at h
 |u::l,i,0,t,h,c,b=>by
  simp at b;subst b;simp only[gN,aaF,abV,beq_iff_eq]at h;exact h.1.resolve_left (fun e=>c (by rw[e,aa3]))
 |u::l,i,j+1,t,h,c,b=>by
  simp only[gN,aaF]at h;exact lh (i:=i+1) (j:=j) h.2 (by omega) (by simpa using b)
def famB (F:List OObj) (b:Rho):Nat->Prop:=fun j=> ∃(r:Nat) (o:OObj) (c:Nat),F[r]?=some o/\b 0 r=some (j,c)
structure lP (P:Program) (f:FuncId) (args:List TV) (k n:Nat) (F F':List OObj) (r:TV):Prop where
 able:callable P f=true
 noref:noRefTV r=true
 head: ∃o o',F[0]?=some o/\F'[0]?=some o'/\o.elems.length=n/\o'.elems.length=n/\o'.es=o.es
 calls: ∀(X:Nat->Prop) (w:World) (vs:Array Value) (ρ:Rho) (b c:Nat),Inv w (famB F ρ) X (famH 0 F) ρ w->ρ 0 0=some (b,c)->vs.size=args.length->vs[k]?=some (.slice (some ⟨b,0,none⟩) n c)->
  (∀(j:Nat) t,j≠k->args[j]?=some t-> ∃v:Value,vs[j]?=some v/\t.rel (fun _ _=>none) (fun _=>[]) (Xo X ρ (famH 0 F)) w v)->
  Calls P f vs w fun e w'=> ∃v,e= .returned v/\ ∃ρ':Rho,Inv w (famB F ρ) X (famH 0 F') ρ' w'/\ρ' 0 0=some (b,c)/\r.rel ρ' (famH 0 F') (Xo X ρ' (famH 0 F')) w' v
def ZE (P:Program) (c:Func) (k n:Nat) (b:List OObj) (r:TV) (s:AS):Prop:=
 s.tmps[k]?=some (.one (.sl 0 0 0 n))/\s.H=famH 0 b/\pj P s c.results.toList=some r
theorem NG {fn:Func} {m:Code} {args:List TV} {k:Nat} (hf:P.funcs[g]?=some fn) (hb:fn.body=some m) (hn:callable P g=true) (hk:k<args.length) (ah:0<n) (B: ∃o o',b[0]?=some o/\c[0]?=some o'/\o.elems.length=n/\o'.elems.length=n/\o'.es=o.es) (hr:noRefTV h=true) (q:eY P k m (fun e s=>(e= .normal\/e= .ret)/\ ∃s',bD s s'/\ZE P fn k n c h s') ⟨args.set k (.one (.sl 0 0 0 n))++ae (fn.ntmps-args.length) .undef,famH 0 b⟩):lP P g args k n b c h:=by
 refine⟨hn,hr,B,fun X w vs ρ l O C T ag S J=>?_⟩;obtain⟨o0,o1,Q,a0,ap,av,an⟩:=B;refine calls_of_wp hf hb ?_;have af:=C.objs 0 0 o0 (by simpa[famH] using Q);obtain⟨_,al,q3⟩:=af;rw[T]at q3;obtain⟨cells,_,_,p3,_⟩:=q3;have R:kL k (.slice (some ⟨l,0,none⟩) n O) w (famB b ρ) X ⟨args.set k (.one (.sl 0 0 0 n))++ae (fn.ntmps-args.length) .undef,famH 0 b⟩ {tmps:=vs++Array.replicate (fn.ntmps-vs.size) undef,defers:=[]} w:=by
  refine⟨⟨rfl,by simp[ag],ρ,C,fun t x A=>?_⟩,?_⟩
  ·by_cases ht:t<args.length
   ·rw[aal (by simpa using ht)]at A;by_cases M:t=k
    ·subst M;rw[aa2 ht]at A;injection A with A
     subst A;exact⟨_,by rw[aaz (by omega)];exact S,o0,by simpa[famH] using Q,by omega,.inr ⟨l,O,O,T,by rw[ab2],by omega,fun _=>rfl⟩⟩
    rw[aaI (abD M)]at A;obtain⟨v,Y,U⟩:=J t x M A;refine⟨v,by rw[aaz (by omega)];exact Y,TV.rel_map U (fun y u V=>?_)⟩;cases y with
    |p y=>exact V
    |sl a h a2 len=>obtain⟨o,N,_⟩:=V;simp at N
    |ptr a h i j=>obtain⟨o,_,_,N,_⟩:=V;simp at N
    |fn g a qs=>exact(oQ (fun _=>rfl) V).elim
    |junk=>trivial
   rw[aap (by simp;omega),aaY]at A;split at A
   ·rename_i ad;injection A with A
    subst A;refine⟨undef,?_,dI⟩;simp at ad;rw[aaM (by omega),abo,if_pos (by omega)]
   cases A
  show(vs++_)[k]?=_;rw[aaz (by omega)];exact S
 refine wp_mono (q _ _ _ _ _ _ R) fun e a' w' ⟨s1,⟨ac,s2,hw,aa,I,ab⟩,K⟩=>?_
 obtain⟨⟨N,a1,E,z,D⟩,L⟩:=K.weak hw;have D:aX X E s2 a' w':=D;rw[I]at z;obtain⟨v,Y,U⟩:=eA (by rw[I];exact z) D ab;rw[I]at U;obtain⟨u,W,u2⟩:=D k _ aa;rw[L]at W;injection W with W
 subst W;obtain⟨o2,g1,g2,g3⟩:=u2;have G:E 0 0=some (l,O):=by
  rcases g3 with⟨_,Z,_,_⟩|⟨b',c',cap,Z,H,_,g9⟩
  ·cases Z
  have g9:=g9 (by decide);injection H with H g6 g7
  injection H with H
  injection H with H g8
  rw[Z,H,show c'=O by omega]
 rcases ac with rfl|rfl
 ·exact⟨N,v,Y,v,rfl,E,z,G,U⟩
 exact⟨N,v,Y,v,rfl,E,z,G,U⟩
theorem xE {s:Rho} {A:OH} {y:Nat->Prop} (M: ∀g,g<w.heap.size->y g->e g) (t:noRefTV h=true) (b:h.rel l o e w j):h.rel s A y w j:=by
 have B: ∀x u,fJ x=true->AV.rel l o e w x u->AV.rel s A y w x u:=fun x u z N=>by
  cases x with
  |p x=>exact bQ.weaken M N
  |junk=>trivial
  |_=>cases z
 have agg: ∀m j,m.all fJ=true->bI l o e w m j->bI s A y w m j:=fun m j I ⟨vs,C,D,E⟩=>by
  simp only[aah]at I;exact⟨vs,C,D,fun g x z=>by obtain⟨u,F,q,G⟩:=E g x z;exact⟨u,F,q,B x u (I x (u5 z)) G⟩⟩
 cases h with
 |one x=>exact B x j t b
 |agg m=>exact agg m j t b
 |fn f m=>obtain⟨u,K,L⟩:=b;exact⟨u,agg m u t K,L⟩
 |tup P=>
  simp only[noRefTV,aah]at t;obtain⟨vs,C,D,E⟩:=b;refine⟨vs,C,D,fun g c m J=>?_⟩;obtain⟨u,F,q⟩:=E g c m J;have n:=t (c,m) (u5 J);refine⟨u,F,?_⟩;rcases q with⟨q,G⟩|⟨q,x,rfl,O⟩
  ·exact .inl ⟨q,agg _ _ (aah.2 n) G⟩
  exact .inr ⟨q,x,rfl,B x u (n x (by simp)) O⟩
def kM (b:Nat):Nat->Nat->Bool:=fun x y=>x==b&&y !=0
section
variable {P:Program} {s:AS} {a:Act} {w0 w:World} {O X:Nat->Prop}
theorem DW (bR:da w0 O X s a w) {A:Call} (ho:q.op= .call A) (bq:A.callee= .value (.func g)) {args:List TV} {k:Nat} (ae:lP P g args k n b c h) (a6:m<=4999) (hk:k<args.length) (cx:0<n) (ci:eK s.ev A.args.toList=some (args.set k (.one (.sl m 0 0 n)))) (a9:gN k 0 args=true) (bt:s.H m=b.map (renO m)) (ap: ∀q∈b,selfO 0 q) (a2: ∀q∈c,selfO 0 q) {K:Act->World->Prop} {Q:Exit->Act->World->Prop} (hK: ∀v w',da w0 O X (AS.put ⟨s.tmps.map (aP (kM m)),aw s.H m (c.map (renO m))⟩ q.dst h) (a.put q.dst v) w'->K (a.put q.dst v) w'):q.wp P a w K Q:=by
 obtain⟨h1,b1,ρ,E,a0⟩:=bR;have a0:aX X ρ s a w:=a0;obtain⟨e1,e2⟩:=bP ci;have cl:(args.set k (.one (.sl m 0 0 n)))[k]?=some (.one (.sl m 0 0 n)):=aa2 hk;obtain⟨x,M,ct⟩:=e2 k _ cl;obtain⟨o0,o1,bw,Z,cy,cA,br⟩:=ae.head;have hF: ∀(y:Nat) G,(s.H m)[y]?=some G↔ ∃q,b[y]?=some q/\G=renO m q:=fun y G=>by
  rw[bt,u9];constructor
  ·intro C;obtain⟨q,I,L⟩:=u6.1 C;exact⟨q,I,L.symm⟩
  rintro⟨q,I,rfl⟩;rw[I];rfl
 obtain⟨l,cc,bh,hv⟩: ∃l cc,ρ m 0=some (l,cc)/\a.eval x= .slice (some ⟨l,0,none⟩) n cc:=by
  obtain⟨G,I,L,T⟩:=be a0 x _ ct;rcases T with⟨_,_,g4,_⟩|⟨l,cc,cap,T,g5,_,g6⟩
  ·omega
  exact⟨l,cc,T,by rw[g5,g6 a6,ab2,aeD]⟩
 let ah:Rho:=fun x y=>if x=0 then ρ m y else none
 have W: ∀y,ah 0 y=ρ m y:=fun y=>if_pos rfl
 let own:Nat->Prop:=famB b ah
 have V: ∀j,own j↔ ∃(y:Nat) (G:OObj) (N:Nat),(s.H m)[y]?=some G/\ρ m y=some (j,N):=fun j=>by
  constructor
  ·rintro⟨y,q,N,I,L⟩;exact⟨y,_,N,(hF y _).2 ⟨q,I,rfl⟩,by rw[<- W];exact L⟩
  rintro⟨y,G,N,I,L⟩;obtain⟨q,T,_⟩:=(hF y G).1 I;exact⟨y,q,N,T,by rw[W];exact L⟩
 have ac: ∀j,own j->Xo X ρ s.H j:=fun j hj=>by
  obtain⟨y,G,N,I,L⟩:=(V j).1 hj;exact .inr ⟨m,y,G,N,I,L⟩
 let X1:Nat->Prop:=fun j=>Xo X ρ s.H j/\ ¬own j
 have bp: ∀j,Xo X ρ s.H j->j<w.heap.size:=fun l hb=>by
  rcases hb with hb|⟨x,y,G,n,I,L⟩
  ·exact E.bar l hb
  exact bf (E.objs x y G I) L
 have a3:Xo X1 ah (famH 0 b)=Xo X ρ s.H:=by
  funext j;apply propext;constructor
  ·rintro(C|⟨x,y,G,N,I,L⟩)
   ·exact C.1
   have cs:x=0:=by
    by_cases C:x=0
    ·exact C
    simp[famH,C]at I
   subst cs;exact ac j ⟨y,G,N,by simpa[famH] using I,L⟩
  intro C;by_cases hj:own j
  ·obtain⟨y,G,N,I,L⟩:=hj;exact .inr ⟨0,y,G,N,by simpa[famH] using I,L⟩
  exact .inl ⟨C,hj⟩
 have f0: ∀(x y:Nat) G,(famH 0 b x)[y]?=some G->x=0/\b[y]?=some G:=fun x y G C=>by
  by_cases M:x=0
  ·subst M;exact⟨rfl,by simpa[famH] using C⟩
  simp[famH,M]at C
 have a5: ∀x v,bs 0 x->AV.rel ρ s.H (Xo X ρ s.H) w (bY m x) v->AV.rel ah (famH 0 b) (Xo X ρ s.H) w x v:=zA fun x v hn hs C=>by
  cases x with
  |fn=>cases hn
  |p x=>exact C
  |junk=>trivial
  |sl z y b3 len=>
   have hs:z=0:=hs;subst hs;obtain⟨G,I,L,T⟩:=C;obtain⟨o2,g4,rfl⟩:=(hF y G).1 I;exact⟨o2,by simpa[famH] using g4,by simpa[renO] using L,nf a6 T (W y)⟩
  |ptr z y i j=>
   have hs:z=0:=hs;subst hs;obtain⟨G,b',N,I,L,T,g5⟩:=C;obtain⟨o2,g4,rfl⟩:=(hF y G).1 I;exact⟨o2,b',N,by simpa[famH] using g4,by rw[W];exact L,by simpa[renO] using T,g5⟩
 have a8:Inv w own X1 (famH 0 b) ah w:=by
  refine⟨Keep.refl w,fun x y G J=>?_,fun x y x' y' o1 o2 j c1 c2 Z R q1 q2=>?_,fun x y G j N J D=>?_,fun j hj=>bp j hj.1,fun x y G J=>?_⟩
  ·obtain⟨rfl,J⟩:=f0 x y G J;rw[a3];obtain⟨z1,z2,z3⟩:=E.objs m y (renO m G) ((hF y _).2 ⟨G,J,rfl⟩);refine⟨fun e he=>?_,z2,?_⟩
   ·have:=z1 (e.map (bY m)) (by simp only[renO,aai];exact⟨e,he,rfl⟩);simpa[renO] using this
   rw[W];cases hr:ρ m y with
   |none=>rw[hr]at z3;simpa[renO] using z3
   |some bc=>
    obtain⟨b',N⟩:=bc;rw[hr]at z3;obtain⟨cells,p1,p2,p3,p4,p5⟩:=z3;refine⟨cells,p1,p2,by simpa[renO] using p3,p4,fun i e j z he hz=>?_⟩;obtain⟨u,u1,u2,u3⟩:=p5 i (e.map (bY m)) j (bY m z) (by simp[renO,he]) (by rw[u9,hz];rfl);exact⟨u,u1,u2,a5 z u (ap G (u5 J) e (u5 he) z (u5 hz)) u3⟩
  ·obtain⟨rfl,Z⟩:=f0 x y o1 Z;obtain⟨rfl,R⟩:=f0 x' y' o2 R;exact⟨rfl,(E.inj m y m y' _ _ j c1 c2 ((hF y _).2 ⟨o1,Z,rfl⟩) ((hF y' _).2 ⟨o2,R,rfl⟩) (by rw[<- W];exact q1) (by rw[<- W];exact q2)).2⟩
  ·obtain⟨rfl,J⟩:=f0 x y G J;have R:own j:=⟨y,G,N,J,D⟩;exact⟨.inr R,fun C=>C.2 R⟩
  obtain⟨rfl,J⟩:=f0 x y G J;exact ap G (u5 J)
 have b0:=f9 (w:=w) ho bq (e:=a.eval) rfl ae.able;unfold Oper.wp;rw[b0];simp only[Oper.upon];have ba:A.args.size=args.length:=by simpa using e1.symm
 refine(ae.calls X1 w (A.args.map a.eval) ah l cc a8 (by rw[W];exact bh) (by simp[ba]) ?_ ?_).mono ?_
 ·rw[aaS];have:A.args[k]?=some x:=by simpa using M
  rw[this];exact congrArg some hv
 ·intro j t hj ht;rw[a3];have cr:(args.set k (.one (.sl m 0 0 n)))[j]?=some t:=by rw[aaI (abD hj)];exact ht
  obtain⟨y,hy,cv⟩:=e2 j t cr;refine⟨a.eval y,?_,qc (fun _ C=>C) (lh (i:=0) a9 (by omega) ht) (be a0 y t cv)⟩;rw[aaS];have:A.args[j]?=some y:=by simpa using hy
  rw[this];rfl
 rintro e w1 ⟨v,rfl,ad,hi,a4,cp⟩;show K (a.put q.dst v) w1;refine hK v w1 ?_;have f1: ∀(x y:Nat) G,(famH 0 c x)[y]?=some G->x=0/\c[y]?=some G:=fun x y G C=>by
  by_cases M:x=0
  ·subst M;exact⟨rfl,by simpa[famH] using C⟩
  simp[famH,M]at C
 generalize bn:aw s.H m (c.map (renO m))=H1;generalize a1:(fun x y=>if x=m then ad 0 y else ρ x y:Rho)=ρ1;have b5:H1 m=c.map (renO m):=by rw[<- bn];exact aM
 have aa: ∀x,x≠m->H1 x=s.H x:=fun x C=>by rw[<- bn];exact aD C
 have S: ∀y,ρ1 m y=ad 0 y:=fun y=>by rw[<- a1];exact if_pos rfl
 have U: ∀x y,x≠m->ρ1 x y=ρ x y:=fun x y C=>by rw[<- a1];exact if_neg C
 have Y: ∀(y:Nat) G,(H1 m)[y]?=some G↔ ∃q,c[y]?=some q/\G=renO m q:=fun y G=>by
  rw[b5,u9];constructor
  ·intro C;obtain⟨q,I,L⟩:=u6.1 C;exact⟨q,I,L.symm⟩
  rintro⟨q,I,rfl⟩;rw[I];rfl
 have al: ∀j,j<w.heap.size-> ¬own j->w1.heap[j]?=w.heap[j]?:=fun j hj ag=>hi.keep.block j hj ag
 have af: ∀(y:Nat) G j N,c[y]?=some G->ad 0 y=some (j,N)->(w.heap.size<=j\/own j)/\ ¬X1 j:=fun y G j N I L=>hi.old 0 y G j N (by simpa[famH] using I) L
 have cg: ∀j,j<w.heap.size->Xo X ρ1 H1 j->Xo X ρ s.H j:=fun j hj C=>by
  rcases C with C|⟨x,y,G,N,I,L⟩
  ·exact .inl C
  by_cases M:x=m
  ·subst M;obtain⟨o2,T,_⟩:=(Y y G).1 I;rw[S]at L;rcases(af y o2 j N T L).1 with B|B
   ·omega
   exact ac j B
  rw[aa x M]at I;rw[U x y M]at L;exact .inr ⟨x,y,G,N,I,L⟩
 have bm: ∀x v,bQ (Xo X ρ s.H) w x v->bQ (Xo X ρ1 H1) w1 x v:=fun x v C=>bQ.later (fun j hj M=>cg j hj M) hi.keep.size (fun p v hp ag hc=>by
  rw[<- hc];exact gm (al p.block hp fun C=>ag (ac _ C))) C
 -- what the call says of the family, told of number m
 have av: ∀j,j<w1.heap.size->Xo X ρ1 H1 j->Xo X1 ad (famH 0 c) j:=fun j _ C=>by
  rcases C with C|⟨x,y,G,N,I,L⟩
  ·have hj:=E.bar j C;by_cases R:own j
   ·obtain⟨y,G,N,I,L⟩:=(V j).1 R;exact absurd C (E.old m y G j N I L).2
   exact .inl ⟨.inl C,R⟩
  by_cases M:x=m
  ·subst M;obtain⟨o2,T,_⟩:=(Y y G).1 I;rw[S]at L;exact .inr ⟨0,y,o2,N,by simpa[famH] using T,L⟩
  rw[aa x M]at I;rw[U x y M]at L;by_cases R:own j
  ·obtain⟨y',o2,c2,k1,k2⟩:=(V j).1 R;exact absurd (E.inj x y m y' G o2 j N c2 I k1 L k2).1 M
  exact .inl ⟨.inr ⟨x,y,G,N,I,L⟩,R⟩
 have b4: ∀x v,bs 0 x->AV.rel ad (famH 0 c) (Xo X1 ad (famH 0 c)) w1 x v->AV.rel ρ1 H1 (Xo X ρ1 H1) w1 (bY m x) v:=jt (c:=bs 0) (fun _ _ _ _ _ _ C=>C.1) (mb m) fun x v hn hs C=>by
  cases x with
  |fn=>cases hn
  |p x=>exact bQ.weaken (fun j hj M=>av j hj M) C
  |junk=>trivial
  |sl z y b3 len=>
   have hs:z=0:=hs;subst hs;obtain⟨G,I,L,T⟩:=C;obtain⟨_,I⟩:=f1 0 y G I;exact⟨renO m G,(Y y _).2 ⟨G,I,rfl⟩,by simpa[renO] using L,nf (by decide) T (S y)⟩
  |ptr z y i j=>
   have hs:z=0:=hs;subst hs;obtain⟨G,b',N,I,L,T,g5⟩:=C;obtain⟨_,I⟩:=f1 0 y G I;exact⟨renO m G,b',N,(Y y _).2 ⟨G,I,rfl⟩,by rw[S];exact L,by simpa[renO] using T,g5⟩
 have mono: ∀x v,AV.rel ρ s.H (Xo X ρ s.H) w x v->AV.rel ρ1 H1 (Xo X ρ1 H1) w1 (aN (kM m) x) v:=gk (mO _) fun x v hn C=>by
  cases x with
  |fn=>cases hn
  |p x=>exact bm x v C
  |junk=>trivial
  |sl z y b3 len=>
   obtain⟨G,I,L,T⟩:=C;simp only[aN];by_cases hz:z=m
   ·subst hz;by_cases hy:y=0
    ·subst hy;obtain⟨o2,g4,rfl⟩:=(hF 0 G).1 I;rw[bw]at g4;injection g4 with g4
     subst g4;rw[if_neg (by simp[kM])];refine⟨renO z o1,(Y 0 _).2 ⟨o1,Z,rfl⟩,by simp[renO]at L⊢;omega,?_⟩;have:(renO z o1).es=(renO z o0).es:=br;rw[this];exact nf a6 T (by rw[S,a4,bh])
    rw[if_pos (by simp[kM,hy])];trivial
   rw[if_neg (by simp[kM,hz])];exact⟨G,by rw[aa z hz];exact I,L,by rw[U z y hz];exact T⟩
  |ptr z y i j=>
   obtain⟨G,b',N,I,L,T,g5⟩:=C;simp only[aN];by_cases hz:z=m
   ·subst hz;by_cases hy:y=0
    ·subst hy;obtain⟨o2,g4,rfl⟩:=(hF 0 G).1 I;rw[bw]at g4;injection g4 with g4
     subst g4;rw[if_neg (by simp[kM])];refine⟨renO z o1,b',N,(Y 0 _).2 ⟨o1,Z,rfl⟩,by rw[S,a4,<- bh];exact L,by simp[renO]at T⊢;omega,?_⟩;have:(renO z o1).es=(renO z o0).es:=br;rw[this];exact g5
    rw[if_pos (by simp[kM,hy])];trivial
   rw[if_neg (by simp[kM,hz])];exact⟨G,b',N,by rw[aa z hz];exact I,by rw[U z y hz];exact L,T,g5⟩
 have bl: ∀(z:Nat) x v,z≠m->bs z x->AV.rel ρ s.H (Xo X ρ s.H) w x v->AV.rel ρ1 H1 (Xo X ρ1 H1) w1 x v:=fun z x v hz hs C=>by
  have:=mono x v C;cases x with
  |sl y _ _ _=>have hs:y=z:=hs;subst hs;simpa[aN,kM,hz] using this
  |ptr y _ _ _=>have hs:y=z:=hs;subst hs;simpa[aN,kM,hz] using this
  |fn _ y _=>have hs:y=z:=hs.1;subst hs;simpa[aN,kM,hz] using this
  |p x=>exact this
  |junk=>trivial
 have a7:Inv w0 O X H1 ρ1 w1:=by
  refine⟨⟨hi.keep.os.trans E.keep.os,hi.keep.tape.trans E.keep.tape,hi.keep.output.trans E.keep.output,aaj E.keep.size hi.keep.size,fun j hj ag=>?_⟩,fun x y G J=>?_,fun x y x' y' o1 o2 j c1 c2 Z R q1 q2=>?_,fun x y G j N J D=>?_,fun j hj=>aas (E.bar j hj) hi.keep.size,fun x y G J=>?_⟩
  ·rw[al j (aas hj E.keep.size) fun C=>?_]
   ·exact E.keep.block j hj ag
   obtain⟨y,G,N,I,L⟩:=(V j).1 C;rcases(E.old m y G j N I L).1 with B|B
   ·omega
   exact ag B
  ·by_cases M:x=m
   ·subst M;obtain⟨o2,T,rfl⟩:=(Y y G).1 J;obtain⟨z1,z2,z3⟩:=hi.objs 0 y o2 (by simpa[famH] using T);refine⟨fun e he=>?_,z2,?_⟩
    ·simp only[renO,aai]at he;obtain⟨e',an,rfl⟩:=he;rw[aa0];exact z1 e' an
    rw[S];cases hr:ad 0 y with
    |none=>rw[hr]at z3;simp[renO,z3]
    |some bc=>
     obtain⟨b',N⟩:=bc;rw[hr]at z3;obtain⟨cells,p1,p2,p3,p4,p5⟩:=z3;refine⟨cells,p1,p2,by simpa[renO] using p3,p4,fun i e j z he hz=>?_⟩;simp only[renO,u9]at he;obtain⟨e',an,rfl⟩:=u6.1 he;rw[u9]at hz;obtain⟨z',bb,rfl⟩:=u6.1 hz;obtain⟨u,u1,u2,u3⟩:=p5 i e' j z' an bb;exact⟨u,u1,u2,b4 z' u (a2 o2 (u5 T) e' (u5 an) z' (u5 bb)) u3⟩
   rw[aa x M]at J;have bx:=E.objs x y G J;obtain⟨z1,z2,z3⟩:=id bx;refine⟨z1,z2,?_⟩;rw[U x y M];cases hr:ρ x y with
   |none=>rw[hr]at z3;exact z3
   |some bc=>
    obtain⟨b',N⟩:=bc;rw[hr]at z3;obtain⟨cells,p1,p2,p3,p4,p5⟩:=z3;refine⟨cells,?_,p2,p3,p4,fun i e j z he hz=>?_⟩
    ·rw[al b' (bf bx hr) fun C=>?_]
     ·exact p1
     obtain⟨y',o2,c2,k1,k2⟩:=(V b').1 C;exact M (E.inj x y m y' G o2 b' N c2 J k1 hr k2).1
    obtain⟨u,u1,u2,u3⟩:=p5 i e j z he hz;exact⟨u,u1,u2,bl x z u M (E.self x y G J e (u5 he) z (u5 hz)) u3⟩
  ·by_cases M:x=m
   ·subst M;obtain⟨o3,T,_⟩:=(Y y o1).1 Z;rw[S]at q1;by_cases ab:x'=x
    ·subst ab;obtain⟨o4,g4,_⟩:=(Y y' o2).1 R;rw[S]at q2;exact⟨rfl,(hi.inj 0 y 0 y' o3 o4 j c1 c2 (by simpa[famH] using T) (by simpa[famH] using g4) q1 q2).2⟩
    rw[aa x' ab]at R;rw[U x' y' ab]at q2;exfalso;have cm:=bf (E.objs x' y' o2 R) q2;rcases(af y o3 j c1 T q1).1 with B|B
    ·omega
    obtain⟨y3,o5,c5,k1,k2⟩:=(V j).1 B;exact ab (E.inj x' y' x y3 o2 o5 j c2 c5 R k1 q2 k2).1
   rw[aa x M]at Z;rw[U x y M]at q1;by_cases ab:x'=m
   ·subst ab;obtain⟨o4,g4,_⟩:=(Y y' o2).1 R;rw[S]at q2;exfalso;have cm:=bf (E.objs x y o1 Z) q1;rcases(af y' o4 j c2 g4 q2).1 with B|B
    ·omega
    obtain⟨y3,o5,c5,k1,k2⟩:=(V j).1 B;exact M (E.inj x y x' y3 o1 o5 j c1 c5 Z k1 q1 k2).1
   rw[aa x' ab]at R;rw[U x' y' ab]at q2;exact E.inj x y x' y' o1 o2 j c1 c2 Z R q1 q2
  ·by_cases M:x=m
   ·subst M;obtain⟨o3,T,_⟩:=(Y y G).1 J;rw[S]at D;rcases(af y o3 j N T D).1 with B|B
    ·refine⟨.inl (aaj E.keep.size B),fun hX=>?_⟩;have:=E.bar j hX;omega
    obtain⟨y3,o5,c5,k1,k2⟩:=(V j).1 B;exact E.old x y3 o5 j c5 k1 k2
   rw[aa x M]at J;rw[U x y M]at D;exact E.old x y G j N J D
  by_cases M:x=m
  ·subst M;obtain⟨o3,T,rfl⟩:=(Y y G).1 J;intro e he z hz;simp only[renO,aai]at he;obtain⟨e',an,rfl⟩:=he;simp only[aai]at hz;obtain⟨z',bb,rfl⟩:=hz;exact dv x z'
  rw[aa x M]at J;exact E.self x y G J
 have b2:aX X ρ1 ⟨s.tmps.map (aP (kM m)),H1⟩ a w1:=fun t x M=>by
  simp only[u9]at M;obtain⟨y,hy,rfl⟩:=u6.1 M;obtain⟨u,u1,u2⟩:=a0 t y hy;exact⟨u,u1,pT u2 mono⟩
 refine⟨by rw[f5];exact h1,by rw[jL,fg];simpa using b1,ρ1,by rw[fK];exact a7,oy (s:=⟨s.tmps.map (aP (kM m)),H1⟩) (by simpa using b1) b2 ?_⟩;exact xE (fun j hj M=>av j hj M) ae.noref cp
end
end
section
section
variable {P:Program} {k:Nat} {s s':AS} {Q:Exit->AS->Prop}
theorem Em {c:List (cB P)} (t:gP P c) {D:List Nat} {b:Array Oper} (u:eR k b=true) {z:Value} {A:World} {O X:Nat->Prop} {Q:Exit->Act->World->Prop} {e:List Nat}: ∀(l:List Oper) (n:Nat) (s s':AS) (a:Act) (w:World),(∀(j:Nat) o,l[j]?=some o->b[n+j]?=some o)->
  f7 P c D b (l.zipIdx n) s=some s'->kL k z A O X s a w->(∀q p,kL k z A O X s' q p->wpOps P b Q e q p)->wpOps P b Q (List.range' n l.length++e) a w
 |[],n,s,s',a,w,_,h,r,f=>by
  simp only[acw,f7]at h;injection h with h
  subst h;exact f a w r
 |o::l,n,s,s',a,w,x,h,r,f=>by
  simp only[abO,f7]at h;split at h
  ·rename_i E g;simp only[aaG,aa1,acq,wpOps];have y:b[n]?=some o:=by have:=x 0 o rfl;simpa using this
   rw[y];simp only;have:=EG (Q:=Q) t r (jI u y) g (K:=wpOps P b Q (List.range' (n+1) l.length++e)) (fun v p C=>Em t u l (n+1) E s' _ _ (fun j o B=>by have:=x (j+1) o (by simpa using B);rwa[show n+(j+1)=n+1+j by omega]at this) h C f);split at this
   ·rename_i m;rw[if_pos m];exact .inl this
   rename_i m;rw[if_neg m];exact this
  cases h
structure RE (ops:Array Oper) (m:Nat) (f:FuncId) (args:List TV) (k n fa:Nat) (F:List OObj) (s:AS):Prop where
 ts:cwTs ops m s=some (f,args.set k (.one (.sl fa 0 0 n)))
 fam:s.H fa=F.map (renO fa)
def Zp (c:Array Oper) (m:Nat) (r:TV) (b:Nat) (e:List OObj) (s:AS):AS:=AS.put ⟨s.tmps.map (aP (kM b)),aw s.H b (e.map (renO b))⟩ (cwD c m) r
theorem Ko (q:Nat) {args:List TV} (D:lP P g args n m b c h) (L:Nat) (t:List (ao P)) (J:List Nat) {id:Nat} (z:eR k f=true) (hk:n<args.length) (E:0<m) (A:gN n 0 args=true) (B: ∀o∈b,selfO 0 o) (x: ∀o∈c,selfO 0 o) (M:L<=4999) (hl:s.tmps.length<=1000000) (N:q<f.toList.length) (p:aT P (t.map ao.a) J (aJ f (f.toList.take q) 0) (some s) (fun H=>RE f q g args n m L b H/\H.tmps.length<=1000000/\aT P (t.map ao.a) J (aJ f (f.toList.drop (q+1)) (q+1)) (some (Zp f q h L c H)) (Q .normal))):eY P k (.region id f false) Q s:=fun v0 w0 O X a w r0=>by
 obtain⟨H,Y,⟨u,q2⟩,aa,Z⟩:=aO P (t.map ao.a) J f _ 0 s _ p;obtain⟨s',h3,h4⟩:=aO P (t.map ao.a) J f _ (q+1) _ _ Z;obtain⟨o,I⟩: ∃o,f[q]?=some o:=⟨f[q],by simp at N;simp[N]⟩;unfold cwTs at u;rw[I]at u;simp only at u;split at u
 ·rename_i l hg G;split at u
  ·rename_i f' C;split at u
   ·rename_i ts U;injection u with u
    injection u with u q3
    subst u q3;refine wp_region ?_;have T:f.size=(f.toList.take q).length+(1+(f.toList.drop (q+1)).length):=by simp at N⊢;omega
    rw[T,aax,<- abf,aaO];have R:(f.toList.take q).length=q:=by rw[abc];omega
    refine Em (ao.ok t) z (f.toList.take q) 0 s H a w (fun j o y=>?_) Y r0 fun K V W=>?_
    ·rw[aaH]at y;split at y
     ·simpa using y
     cases y
    rw[R,abX 1,aa1];simp only[wpOps,I];rw[if_pos (by simp[Region.wanted,hg])];refine .inl (DW W.1 G C D M hk E U A q2 B x fun v w1 S=>?_);refine qj (ao.ok t) z (Q:=fun e K V=> ∃s',Q e s'/\kL k v0 w0 O X s' K V) (f.toList.drop (q+1)) (q+1) _ s' _ _ (fun j o y=>?_) h3 ⟨?_,?_⟩ (fun K V hr=>⟨s',h4,hr⟩)
    ·rw[aaN]at y;simpa using y
    ·have:cwD f q=o.dst:=by unfold cwD;rw[I];rfl
     unfold Zp;rw[this];exact S
    rw[mz v (jI z I)];exact W.2
   cases u
  cases u
 cases u
theorem Fv (j:Nat) {args:List TV} (u:lP P g args n m b c h) (x:Nat) (l:List (ao P)) (A:List Nat) {id:Nat} (z:eR k f=true) (B:n<args.length) (v:0<m) (q:gN n 0 args=true) (t: ∀o∈b,selfO 0 o) (p: ∀o∈c,selfO 0 o) (y:x<=4999) (C:s.tmps.length<=1000000) (D:j<f.toList.length) (e: ∀K:AS->Prop,(∀w,(RE f j g args n m x b w/\w.tmps.length<=1000000/\ ∀K:AS->Prop,(∀s',Q .normal s'->K s')->aT P (l.map ao.a) A (aJ f (f.toList.drop (j+1)) (j+1)) (some (Zp f j h x c w)) K)->K w)->aT P (l.map ao.a) A (aJ f (f.toList.take j) 0) (some s) K):eY P k (.region id f false) Q s:=
 Ko j u x l A z B v q t p y C D (e _ fun w ⟨E,G,H⟩=>⟨E,G,H _ fun _ e=>e⟩)
theorem M3 (j:k<s.tmps.length) (h:eY P k p Q s):bo P p Q s:=fun m O X a w r=>by
 obtain⟨b,l⟩: ∃b,a.tmps[k]?=some b:=⟨a.tmps[k]'(by rw[r.2.1];exact j),by simp⟩;exact wp_mono (h b m O X a w ⟨r,l⟩) fun e n o ⟨s',f,g⟩=>⟨s',f,g.1⟩
end
end
section
section
variable {ρ ρ':Rho} {H H':OH} {Y Y':Nat->Prop} {w w':World} {d:Nat}
theorem LM (q:selfTV 0 h) (b:h.rel ρ H Y w j) (k: ∀x j,bs 0 x->AV.rel ρ H Y w x j->AV.rel ρ' H' Y' w' (bY d x) j):(renTV d h).rel ρ' H' Y' w' j:=by
 have agg: ∀l j,(∀x∈l,bs 0 x)->bI ρ H Y w l j->bI ρ' H' Y' w' (l.map (bY d)) j:=fun l j I ⟨vs,r,s,z⟩=>by
  refine⟨vs,r,by simpa using s,fun g x E=>?_⟩;rw[u9]at E;obtain⟨y,p,rfl⟩:=u6.1 E;obtain⟨u,A,n,B⟩:=z g y p;exact⟨u,A,n,k y u (I y (u5 p)) B⟩
 cases h with
 |one x=>exact k x j q b
 |agg l=>exact agg l j q b
 |fn f l=>obtain⟨u,F,G⟩:=b;exact⟨u,agg l u q F,G⟩
 |tup K=>
  obtain⟨vs,r,s,z⟩:=b;refine⟨vs,r,by simpa using s,fun g c l D=>?_⟩;rw[u9]at D;obtain⟨⟨C,m⟩,p,e⟩:=u6.1 D;simp at e;obtain⟨rfl,rfl⟩:=e;obtain⟨u,A,n⟩:=z g C m p;have o: ∀x∈m,bs 0 x:=q (C,m) (u5 p);refine⟨u,A,?_⟩;rcases n with⟨n,B⟩|⟨n,x,rfl,J⟩
  ·exact .inl ⟨n,agg _ _ o B⟩
  exact .inr ⟨n,_,rfl,k x u (o x (by simp)) J⟩
theorem G3 (p:selfTV 0 h) (b:(renTV d h).rel ρ H Y w j) (k: ∀x j,bs 0 x->AV.rel ρ H Y w (bY d x) j->AV.rel ρ' H' Y' w' x j):h.rel ρ' H' Y' w' j:=by
 have agg: ∀m j,(∀x∈m,bs 0 x)->bI ρ H Y w (m.map (bY d)) j->bI ρ' H' Y' w' m j:=fun m j F ⟨vs,q,r,s⟩=>by
  refine⟨vs,q,by simpa using r,fun g x C=>?_⟩;obtain⟨u,z,n,A⟩:=s g (bY d x) (by rw[u9,C];rfl);exact⟨u,z,n,k x u (F x (u5 C)) A⟩
 cases h with
 |one x=>exact k x j p b
 |agg m=>exact agg m j p b
 |fn f m=>obtain⟨u,D,E⟩:=b;exact⟨u,agg m u p D,E⟩
 |tup I=>
  obtain⟨vs,q,r,s⟩:=b;refine⟨vs,q,by simpa using r,fun g c m B=>?_⟩;obtain⟨u,z,n⟩:=s g c (m.map (bY d)) (by rw[u9,B];rfl);have o: ∀x∈m,bs 0 x:=p (c,m) (u5 B);refine⟨u,z,?_⟩;rcases n with⟨n,A⟩|⟨n,x,e,G⟩
  ·exact .inl ⟨n,agg _ _ o A⟩
  cases m with
  |nil=>cases e
  |cons y l=>
   simp at e;obtain⟨rfl,rfl⟩:=e;exact .inr ⟨n,y,rfl,k y u (o y (by simp)) G⟩
end
structure qr (P:Program) (f:FuncId) (args:List TV) (F F':List OObj) (r:TV):Prop where
 able:callable P f=true
 sA: ∀t∈args,selfTV 0 t
 sR:selfTV 0 r
 sF: ∀o∈F,selfO 0 o
 sF': ∀o∈F',selfO 0 o
 calls: ∀(X:Nat->Prop) (w:World) (vs:Array Value) (ρ:Rho),Inv w (famB F ρ) X (famH 0 F) ρ w->vs.size=args.length->
  (∀(j:Nat) t,args[j]?=some t-> ∃v:Value,vs[j]?=some v/\t.rel ρ (famH 0 F) (Xo X ρ (famH 0 F)) w v)->
  Calls P f vs w fun e w'=> ∃v,e= .returned v/\ ∃ρ':Rho,Inv w (famB F ρ) X (famH 0 F') ρ' w'/\r.rel ρ' (famH 0 F') (Xo X ρ' (famH 0 F')) w' v
def VI (P:Program) (c:Func) (b:List OObj) (r:TV) (s:AS):Prop:=s.H=famH 0 b/\pj P s c.results.toList=some r
theorem ND {B:Func} {args:List TV} (O:P.funcs[g]?=some B) (N:B.body=some p) (R:callable P g=true) (W: ∀t∈args,selfTV 0 t) (Z:selfTV 0 h) (Y: ∀o∈b,selfO 0 o) (sF': ∀o∈c,selfO 0 o) (j:bo P p (fun e s=>(e= .normal\/e= .ret)/\ ∃K,bD s K/\VI P B c h K) ⟨args++ae (B.ntmps-args.length) .undef,famH 0 b⟩):qr P g args b c h:=by
 refine⟨R,W,Z,Y,sF',fun X w vs L u I q=>?_⟩;refine calls_of_wp O N ?_;have C:da w (famB b L) X ⟨args++ae (B.ntmps-args.length) .undef,famH 0 b⟩ {tmps:=vs++Array.replicate (B.ntmps-vs.size) undef,defers:=[]} w:=by
  refine⟨rfl,by simp[I],L,u,fun t x m=>?_⟩;by_cases T:t<args.length
  ·rw[aal T]at m;obtain⟨v,E,D⟩:=q t x m;exact⟨v,by rw[aaz (by omega)];exact E,D⟩
  rw[aap (by omega),aaY]at m;split at m
  ·rename_i Q;injection m with m
   subst m;refine⟨undef,?_,dI⟩;rw[aaM (by omega),abo,if_pos (by omega)]
  cases m
 refine wp_mono (j _ _ _ _ _ C) fun e M w' ⟨s1,⟨H,V,U,n,G⟩,y⟩=>?_
 obtain⟨J,S,A,l,z⟩:=U _ _ _ _ _ y;have z:aX X A V M w':=z;rw[n]at l;obtain⟨v,E,D⟩:=eA (by rw[n];exact l) z G;rw[n]at D;rcases H with rfl|rfl
 ·exact⟨J,v,E,v,rfl,A,l,D⟩
 exact⟨J,v,E,v,rfl,A,l,D⟩
theorem qr.toC {args:List TV} {k:Nat} {z:TypeId} (m:qr P g args [⟨z,n,[]⟩] b h) (s:0<n) (E:args[k]?=some (.one (.sl 0 0 0 0))) (K:gN k 0 args=true):
  CallC P g (args.set k (.one (.p (.raw (.slice none 0 0))))) ⟨b,h⟩:=by
 refine⟨m.able,fun X w vs I y C=>?_⟩;have F:famB [⟨z,n,[]⟩] (fun _ _=>none)=fun _=>False:=by
  funext j;apply propext;constructor
  ·rintro⟨_,_,_,_,m⟩;cases m
  intro m;exact m.elim
 have G:Xo X (fun _ _=>none) (famH 0 [⟨z,n,[]⟩])=X:=by
  funext j;apply propext;constructor
  ·rintro(m|⟨_,_,_,_,_,m⟩)
   ·exact m
   cases m
  exact .inl
 have J:=(aaf.1 E).1;have:=m.calls X w vs (fun _ _=>none) ⟨Keep.refl w,fun a h o x=>?_,fun a h L O o N l c M _ _ u=>(by cases u),fun a h o l c _ u=>(by cases u),I,fun a h o x=>?_⟩ (by simpa using y) (fun j t q=>?_)
 ·rw[F]at this;exact this
 ·obtain⟨rfl,rfl,rfl⟩:=s8 x;exact⟨fun e s=>(by cases s),s,rfl⟩
 ·obtain⟨rfl,rfl,rfl⟩:=s8 x;exact fun e s=>by cases s
 rw[G];by_cases D:j=k
 ·subst D;obtain⟨v,A,B⟩:=C j _ (aa2 J);rw[E]at q;injection q with q
  subst q;have:=(aV (ρ:=fun _ _=>none) (H:=fun _=>[]) B).1;exact⟨v,A,_,rfl,by simp,.inl ⟨rfl,this,rfl,rfl⟩⟩
 obtain⟨v,A,B⟩:=C j t (by rw[aaI (abD D)];exact q);exact⟨v,A,qc (fun _ m=>m) (lh (i:=0) K (by omega) q) B⟩
def kF (b:Nat):Nat->Nat->Bool:=fun x _=>x==b
section
variable {P:Program} {s:AS} {a:Act} {w0 w:World} {O X:Nat->Prop}
theorem zK {B:Nat->Prop} (h1:a.defers=[]) (bR:a.tmps.size=s.tmps.length) (D:Inv w0 O X s.H l w) (b0:aX X l s a w) (hB: ∀j,B j->O j/\X j) (sR:selfTV 0 h) (ap: ∀o∈b,selfO 0 o) (a0: ∀o∈c,selfO 0 o) (bq:n<=4999) (bh:s.H n=b.map (renO n)):
  ∃(X1:Nat->Prop) (U:Rho),Inv w (fun j=>famB b U j\/B j) X1 (famH 0 b) U w/\(∀j,B j->X1 j)/\
   (∀t v,selfTV 0 t->(renTV n t).rel l s.H (Xo X l s.H) w v->t.rel U (famH 0 b) (Xo X1 U (famH 0 b)) w v)/\
   (∀j,famB b U j-> ∃(y:Nat) (o:OObj) (m:Nat),(s.H n)[y]?=some o/\l n y=some (j,m))/\
   (∀y,U 0 y=l n y)/\
   ∀v w1 Z,Inv w (fun j=>famB b U j\/B j) X1 (famH 0 c) Z w1->h.rel Z (famH 0 c) (Xo X1 Z (famH 0 c)) w1 v-> ∃M:Rho,(∀y,M n y=Z 0 y)/\Inv w0 O X (aw s.H n (c.map (renO n))) M w1/\(∀x v,AV.rel l s.H (Xo X l s.H) w x v->AV.rel M (aw s.H n (c.map (renO n))) (Xo X M (aw s.H n (c.map (renO n)))) w1 (aN (kF n) x) v)/\(renTV n h).rel M (aw s.H n (c.map (renO n))) (Xo X M (aw s.H n (c.map (renO n)))) w1 v:=by
 have hF: ∀(y:Nat) E,(s.H n)[y]?=some E↔ ∃o,b[y]?=some o/\E=renO n o:=fun y E=>by
  rw[bh,u9];constructor
  ·intro A;obtain⟨o,I,J⟩:=u6.1 A;exact⟨o,I,J.symm⟩
  rintro⟨o,I,rfl⟩;rw[I];rfl
 let U:Rho:=fun x y=>if x=0 then l n y else none
 have S: ∀y,U 0 y=l n y:=fun y=>if_pos rfl
 let own:Nat->Prop:=famB b U
 have R: ∀j,own j↔ ∃(y:Nat) (E:OObj) (K:Nat),(s.H n)[y]?=some E/\l n y=some (j,K):=fun j=>by
  constructor
  ·rintro⟨y,o,K,I,J⟩;exact⟨y,_,K,(hF y _).2 ⟨o,I,rfl⟩,by rw[<- S];exact J⟩
  rintro⟨y,E,K,I,J⟩;obtain⟨o,V,_⟩:=(hF y E).1 I;exact⟨y,o,K,V,by rw[S];exact J⟩
 have af: ∀j,own j->Xo X l s.H j:=fun j hj=>by
  obtain⟨y,E,K,I,J⟩:=(R j).1 hj;exact .inr ⟨n,y,E,K,I,J⟩
 let X1:Nat->Prop:=fun j=>Xo X l s.H j/\ ¬own j
 have bb: ∀j,Xo X l s.H j->j<w.heap.size:=fun f hb=>by
  rcases hb with hb|⟨x,y,E,C,I,J⟩
  ·exact D.bar f hb
  exact bf (D.objs x y E I) J
 have a2:Xo X1 U (famH 0 b)=Xo X l s.H:=by
  funext j;apply propext;constructor
  ·rintro(A|⟨x,y,E,K,I,J⟩)
   ·exact A.1
   have bx:x=0:=by
    by_cases A:x=0
    ·exact A
    simp[famH,A]at I
   subst bx;exact af j ⟨y,E,K,by simpa[famH] using I,J⟩
  intro A;by_cases hj:own j
  ·obtain⟨y,E,K,I,J⟩:=hj;exact .inr ⟨0,y,E,K,by simpa[famH] using I,J⟩
  exact .inl ⟨A,hj⟩
 have f0: ∀(x y:Nat) E,(famH 0 b x)[y]?=some E->x=0/\b[y]?=some E:=fun x y E A=>by
  by_cases N:x=0
  ·subst N;exact⟨rfl,by simpa[famH] using A⟩
  simp[famH,N]at A
 have ah: ∀x v,bs 0 x->AV.rel l s.H (Xo X l s.H) w (bY n x) v->AV.rel U (famH 0 b) (Xo X l s.H) w x v:=zA fun x v hn W A=>by
  cases x with
  |fn=>cases hn
  |p x=>exact A
  |junk=>trivial
  |sl z y bm len=>
   have W:z=0:=W;subst W;obtain⟨E,I,J,V⟩:=A;obtain⟨o2,g4,rfl⟩:=(hF y E).1 I;exact⟨o2,by simpa[famH] using g4,by simpa[renO] using J,nf bq V (S y)⟩
  |ptr z y i j=>
   have W:z=0:=W;subst W;obtain⟨E,b',K,I,J,V,g5⟩:=A;obtain⟨o2,g4,rfl⟩:=(hF y E).1 I;exact⟨o2,b',K,by simpa[famH] using g4,by rw[S];exact J,by simpa[renO] using V,g5⟩
 have a1: ∀j,B j->X1 j:=fun j hj=>⟨.inl (hB j hj).2,fun⟨y,E,K,I,J⟩=>(D.old n y _ j K ((hF y _).2 ⟨E,I,rfl⟩) (by rw[<- S];exact J)).2 (hB j hj).2⟩
 have a4:Inv w (fun j=>own j\/B j) X1 (famH 0 b) U w:=by
  refine⟨Keep.refl w,fun x y E G=>?_,fun x y x' y' o1 o2 j c1 c2 ac L q1 q2=>?_,fun x y E j K G q=>?_,fun j hj=>bb j hj.1,fun x y E G=>?_⟩
  ·obtain⟨rfl,G⟩:=f0 x y E G;rw[a2];obtain⟨z1,z2,z3⟩:=D.objs n y (renO n E) ((hF y _).2 ⟨E,G,rfl⟩);refine⟨fun e he=>?_,z2,?_⟩
   ·have:=z1 (e.map (bY n)) (by simp only[renO,aai];exact⟨e,he,rfl⟩);simpa[renO] using this
   rw[S];cases hr:l n y with
   |none=>rw[hr]at z3;simpa[renO] using z3
   |some bc=>
    obtain⟨b',K⟩:=bc;rw[hr]at z3;obtain⟨cells,p1,p2,p3,p4,p5⟩:=z3;refine⟨cells,p1,p2,by simpa[renO] using p3,p4,fun i e j z he Y=>?_⟩;obtain⟨u,u1,u2,u3⟩:=p5 i (e.map (bY n)) j (bY n z) (by simp[renO,he]) (by rw[u9,Y];rfl);exact⟨u,u1,u2,ah z u (ap E (u5 G) e (u5 he) z (u5 Y)) u3⟩
  ·obtain⟨rfl,ac⟩:=f0 x y o1 ac;obtain⟨rfl,L⟩:=f0 x' y' o2 L;exact⟨rfl,(D.inj n y n y' _ _ j c1 c2 ((hF y _).2 ⟨o1,ac,rfl⟩) ((hF y' _).2 ⟨o2,L,rfl⟩) (by rw[<- S];exact q1) (by rw[<- S];exact q2)).2⟩
  ·obtain⟨rfl,G⟩:=f0 x y E G;have L:own j:=⟨y,E,K,G,q⟩;exact⟨.inr (.inl L),fun A=>A.2 L⟩
  obtain⟨rfl,G⟩:=f0 x y E G;exact ap E (u5 G)
 refine⟨X1,U,a4,a1,fun t v W A=>?_,fun j hj=>(R j).1 hj,S,?_⟩
 ·rw[a2];exact G3 W A ah
 intro v w1 Z hi bw;have f1: ∀(x y:Nat) E,(famH 0 c x)[y]?=some E->x=0/\c[y]?=some E:=fun x y E A=>by
  by_cases N:x=0
  ·subst N;exact⟨rfl,by simpa[famH] using A⟩
  simp[famH,N]at A
 generalize ba:aw s.H n (c.map (renO n))=H1;generalize av:(fun x y=>if x=n then Z 0 y else l x y:Rho)=M;have bn:H1 n=c.map (renO n):=by rw[<- ba];exact aM
 have ab: ∀x,x≠n->H1 x=s.H x:=fun x A=>by rw[<- ba];exact aD A
 have Q: ∀y,M n y=Z 0 y:=fun y=>by rw[<- av];exact if_pos rfl
 have T: ∀x y,x≠n->M x y=l x y:=fun x y A=>by rw[<- av];exact if_neg A
 have aa: ∀(y:Nat) E,(H1 n)[y]?=some E↔ ∃o,c[y]?=some o/\E=renO n o:=fun y E=>by
  rw[bn,u9];constructor
  ·intro A;obtain⟨o,I,J⟩:=u6.1 A;exact⟨o,I,J.symm⟩
  rintro⟨o,I,rfl⟩;rw[I];rfl
 have al: ∀j,j<w.heap.size-> ¬own j-> ¬B j->w1.heap[j]?=w.heap[j]?:=fun j hj ad bt=>hi.keep.block j hj fun A=>A.elim ad bt
 have ag: ∀(y:Nat) E j K,c[y]?=some E->Z 0 y=some (j,K)->(w.heap.size<=j\/own j)/\ ¬X1 j:=fun y E j K I J=>by
  obtain⟨k1,k2⟩:=hi.old 0 y E j K (by simpa[famH] using I) J;exact⟨k1.imp_right fun A=>A.resolve_right fun hb=>k2 (a1 j hb),k2⟩
 have bp: ∀j,j<w.heap.size->Xo X M H1 j->Xo X l s.H j:=fun j hj A=>by
  rcases A with A|⟨x,y,E,K,I,J⟩
  ·exact .inl A
  by_cases N:x=n
  ·subst N;obtain⟨o2,V,_⟩:=(aa y E).1 I;rw[Q]at J;rcases(ag y o2 j K V J).1 with g|g
   ·omega
   exact af j g
  rw[ab x N]at I;rw[T x y N]at J;exact .inr ⟨x,y,E,K,I,J⟩
 have a8: ∀x v,bQ (Xo X l s.H) w x v->bQ (Xo X M H1) w1 x v:=fun x v A=>bQ.later (fun j hj N=>bp j hj N) hi.keep.size (fun p v hp ad hc=>by
  rw[<- hc];exact gm (al p.block hp (fun A=>ad (af _ A)) fun A=>ad (.inl (hB _ A).2))) A
 -- what the call says of the family, told of number n
 have a5: ∀j,j<w1.heap.size->Xo X M H1 j->Xo X1 Z (famH 0 c) j:=fun j _ A=>by
  rcases A with A|⟨x,y,E,K,I,J⟩
  ·have hj:=D.bar j A;by_cases L:own j
   ·obtain⟨y,E,K,I,J⟩:=(R j).1 L;exact absurd A (D.old n y E j K I J).2
   exact .inl ⟨.inl A,L⟩
  by_cases N:x=n
  ·subst N;obtain⟨o2,V,_⟩:=(aa y E).1 I;rw[Q]at J;exact .inr ⟨0,y,o2,K,by simpa[famH] using V,J⟩
  rw[ab x N]at I;rw[T x y N]at J;by_cases L:own j
  ·obtain⟨y',o2,c2,k1,k2⟩:=(R j).1 L;exact absurd (D.inj x y n y' E o2 j K c2 I k1 J k2).1 N
  exact .inl ⟨.inr ⟨x,y,E,K,I,J⟩,L⟩
 have a9: ∀x v,bs 0 x->AV.rel Z (famH 0 c) (Xo X1 Z (famH 0 c)) w1 x v->AV.rel M H1 (Xo X M H1) w1 (bY n x) v:=jt (c:=bs 0) (fun _ _ _ _ _ _ A=>A.1) (mb n) fun x v hn W A=>by
  cases x with
  |fn=>cases hn
  |p x=>exact bQ.weaken (fun j hj N=>a5 j hj N) A
  |junk=>trivial
  |sl z y bm len=>
   have W:z=0:=W;subst W;obtain⟨E,I,J,V⟩:=A;obtain⟨_,I⟩:=f1 0 y E I;exact⟨renO n E,(aa y _).2 ⟨E,I,rfl⟩,by simpa[renO] using J,nf (by decide) V (Q y)⟩
  |ptr z y i j=>
   have W:z=0:=W;subst W;obtain⟨E,b',K,I,J,V,g5⟩:=A;obtain⟨_,I⟩:=f1 0 y E I;exact⟨renO n E,b',K,(aa y _).2 ⟨E,I,rfl⟩,by rw[Q];exact J,by simpa[renO] using V,g5⟩
 have mono: ∀x v,AV.rel l s.H (Xo X l s.H) w x v->AV.rel M H1 (Xo X M H1) w1 (aN (kF n) x) v:=gk (mO _) fun x v hn A=>by
  cases x with
  |fn=>cases hn
  |p x=>exact a8 x v A
  |junk=>trivial
  |sl z y bm len=>
   obtain⟨E,I,J,V⟩:=A;simp only[aN];by_cases Y:z=n
   ·rw[if_pos (by simp[kF,Y])];trivial
   rw[if_neg (by simp[kF,Y])];exact⟨E,by rw[ab z Y];exact I,J,by rw[T z y Y];exact V⟩
  |ptr z y i j=>
   obtain⟨E,b',K,I,J,V,g5⟩:=A;simp only[aN];by_cases Y:z=n
   ·rw[if_pos (by simp[kF,Y])];trivial
   rw[if_neg (by simp[kF,Y])];exact⟨E,b',K,by rw[ab z Y];exact I,by rw[T z y Y];exact J,V,g5⟩
 have a7: ∀(z:Nat) x v,z≠n->bs z x->AV.rel l s.H (Xo X l s.H) w x v->AV.rel M H1 (Xo X M H1) w1 x v:=fun z x v Y W A=>by
  have:=mono x v A;cases x with
  |sl y _ _ _=>have W:y=z:=W;subst W;simpa[aN,kF,Y] using this
  |ptr y _ _ _=>have W:y=z:=W;subst W;simpa[aN,kF,Y] using this
  |fn _ y _=>have W:y=z:=W.1;subst W;simpa[aN,kF,Y] using this
  |p x=>exact this
  |junk=>trivial
 have a3:Inv w0 O X H1 M w1:=by
  refine⟨⟨hi.keep.os.trans D.keep.os,hi.keep.tape.trans D.keep.tape,hi.keep.output.trans D.keep.output,aaj D.keep.size hi.keep.size,fun j hj ad=>?_⟩,fun x y E G=>?_,fun x y x' y' o1 o2 j c1 c2 ac L q1 q2=>?_,fun x y E j K G q=>?_,fun j hj=>aas (D.bar j hj) hi.keep.size,fun x y E G=>?_⟩
  ·rw[al j (aas hj D.keep.size) (fun A=>?_) (fun A=>ad (hB j A).1)]
   ·exact D.keep.block j hj ad
   obtain⟨y,E,K,I,J⟩:=(R j).1 A;rcases(D.old n y E j K I J).1 with g|g
   ·omega
   exact ad g
  ·by_cases N:x=n
   ·subst N;obtain⟨o2,V,rfl⟩:=(aa y E).1 G;obtain⟨z1,z2,z3⟩:=hi.objs 0 y o2 (by simpa[famH] using V);refine⟨fun e he=>?_,z2,?_⟩
    ·simp only[renO,aai]at he;obtain⟨e',an,rfl⟩:=he;rw[aa0];exact z1 e' an
    rw[Q];cases hr:Z 0 y with
    |none=>rw[hr]at z3;simp[renO,z3]
    |some bc=>
     obtain⟨b',K⟩:=bc;rw[hr]at z3;obtain⟨cells,p1,p2,p3,p4,p5⟩:=z3;refine⟨cells,p1,p2,by simpa[renO] using p3,p4,fun i e j z he Y=>?_⟩;simp only[renO,u9]at he;obtain⟨e',an,rfl⟩:=u6.1 he;rw[u9]at Y;obtain⟨z',a6,rfl⟩:=u6.1 Y;obtain⟨u,u1,u2,u3⟩:=p5 i e' j z' an a6;exact⟨u,u1,u2,a9 z' u (a0 o2 (u5 V) e' (u5 an) z' (u5 a6)) u3⟩
   rw[ab x N]at G;have bl:=D.objs x y E G;obtain⟨z1,z2,z3⟩:=id bl;refine⟨z1,z2,?_⟩;rw[T x y N];cases hr:l x y with
   |none=>rw[hr]at z3;exact z3
   |some bc=>
    obtain⟨b',K⟩:=bc;rw[hr]at z3;obtain⟨cells,p1,p2,p3,p4,p5⟩:=z3;refine⟨cells,?_,p2,p3,p4,fun i e j z he Y=>?_⟩
    ·rw[al b' (bf bl hr) (fun A=>?_) (fun A=>(D.old x y E b' K G hr).2 (hB b' A).2)]
     ·exact p1
     obtain⟨y',o2,c2,k1,k2⟩:=(R b').1 A;exact N (D.inj x y n y' E o2 b' K c2 G k1 hr k2).1
    obtain⟨u,u1,u2,u3⟩:=p5 i e j z he Y;exact⟨u,u1,u2,a7 x z u N (D.self x y E G e (u5 he) z (u5 Y)) u3⟩
  ·by_cases N:x=n
   ·subst N;obtain⟨o3,V,_⟩:=(aa y o1).1 ac;rw[Q]at q1;by_cases ae:x'=x
    ·subst ae;obtain⟨o4,g4,_⟩:=(aa y' o2).1 L;rw[Q]at q2;exact⟨rfl,(hi.inj 0 y 0 y' o3 o4 j c1 c2 (by simpa[famH] using V) (by simpa[famH] using g4) q1 q2).2⟩
    rw[ab x' ae]at L;rw[T x' y' ae]at q2;exfalso;have br:=bf (D.objs x' y' o2 L) q2;rcases(ag y o3 j c1 V q1).1 with g|g
    ·omega
    obtain⟨y3,o5,c5,k1,k2⟩:=(R j).1 g;exact ae (D.inj x' y' x y3 o2 o5 j c2 c5 L k1 q2 k2).1
   rw[ab x N]at ac;rw[T x y N]at q1;by_cases ae:x'=n
   ·subst ae;obtain⟨o4,g4,_⟩:=(aa y' o2).1 L;rw[Q]at q2;exfalso;have br:=bf (D.objs x y o1 ac) q1;rcases(ag y' o4 j c2 g4 q2).1 with g|g
    ·omega
    obtain⟨y3,o5,c5,k1,k2⟩:=(R j).1 g;exact N (D.inj x y x' y3 o1 o5 j c1 c5 ac k1 q1 k2).1
   rw[ab x' ae]at L;rw[T x' y' ae]at q2;exact D.inj x y x' y' o1 o2 j c1 c2 ac L q1 q2
  ·by_cases N:x=n
   ·subst N;obtain⟨o3,V,_⟩:=(aa y E).1 G;rw[Q]at q;rcases(ag y o3 j K V q).1 with g|g
    ·refine⟨.inl (aaj D.keep.size g),fun hX=>?_⟩;have:=D.bar j hX;omega
    obtain⟨y3,o5,c5,k1,k2⟩:=(R j).1 g;exact D.old x y3 o5 j c5 k1 k2
   rw[ab x N]at G;rw[T x y N]at q;exact D.old x y E j K G q
  by_cases N:x=n
  ·subst N;obtain⟨o3,V,rfl⟩:=(aa y E).1 G;intro e he z Y;simp only[renO,aai]at he;obtain⟨e',an,rfl⟩:=he;simp only[aai]at Y;obtain⟨z',a6,rfl⟩:=Y;exact dv x z'
  rw[ab x N]at G;exact D.self x y E G
 exact⟨M,Q,a3,mono,LM sR bw a9⟩
theorem pS {B:Nat->Prop} (K:a.defers=[]) (z:a.tmps.size=s.tmps.length) (D:Inv w0 O X s.H l w) (E:aX X l s a w) (T: ∀j,B j->O j/\X j) (sR:selfTV 0 h) (q: ∀o∈b,selfO 0 o) (m: ∀o∈c,selfO 0 o) (J:n<=4999) (C:s.H n=b.map (renO n)):
  ∃(p:Nat->Prop) (f:Rho),Inv w (fun j=>famB b f j\/B j) p (famH 0 b) f w/\(∀j,B j->p j)/\
   (∀t v,selfTV 0 t->(renTV n t).rel l s.H (Xo X l s.H) w v->t.rel f (famH 0 b) (Xo p f (famH 0 b)) w v)/\
   (∀j,famB b f j-> ∃(y:Nat) (o:OObj) (e:Nat),(s.H n)[y]?=some o/\l n y=some (j,e))/\
   ∀v A g,Inv w (fun j=>famB b f j\/B j) p (famH 0 c) g A->h.rel g (famH 0 c) (Xo p g (famH 0 c)) A v-> ∀d,da w0 O X (AS.put ⟨s.tmps.map (aP (kF n)),aw s.H n (c.map (renO n))⟩ d (renTV n h)) (a.put d v) A:=by
 obtain⟨p,f,M,N,Q,R,_,S⟩:=zK K z D E T sR q m J C;refine⟨p,f,M,N,Q,R,fun v A g U V d=>?_⟩;obtain⟨I,_,Y,Z,k3⟩:=S v A g U V;have G:aX X I ⟨s.tmps.map (aP (kF n)),aw s.H n (c.map (renO n))⟩ a A:=fun t x L=>by
  simp only[u9]at L;obtain⟨y,W,rfl⟩:=u6.1 L;obtain⟨u,u1,u2⟩:=E t y W;exact⟨u,u1,pT u2 Z⟩
 exact⟨by rw[f5];exact K,by rw[jL,fg];simpa using z,I,by rw[fK];exact Y,oy (s:=⟨s.tmps.map (aP (kF n)),aw s.H n (c.map (renO n))⟩) (by simpa using z) G k3⟩
theorem Og (E:da w0 O X s a w) {l:Call} (ho:q.op= .call l) (A:l.callee= .value (.func g)) {args:List TV} (p:qr P g args b c h) (J:n<=4999) (I:eK s.ev l.args.toList=some (args.map (renTV n))) (C:s.H n=b.map (renO n)) {K:Act->World->Prop} {Q:Exit->Act->World->Prop} (hK: ∀v W,da w0 O X (AS.put ⟨s.tmps.map (aP (kF n)),aw s.H n (c.map (renO n))⟩ q.dst (renTV n h)) (a.put q.dst v) W->K (a.put q.dst v) W):q.wp P a w K Q:=by
 obtain⟨h1,M,ρ,D,u⟩:=E;have u:aX X ρ s a w:=u;obtain⟨e1,e2⟩:=bP I;obtain⟨Z,z,T,_,g3,_,g4⟩:=pS (B:=fun _=>False) h1 M D u (fun _ m=>m.elim) p.sR p.sF p.sF' J C;have S:(fun j=>famB b z j\/False)=famB b z:=funext fun j=>propext (or_iff_left id)
 rw[S]at T;have G:=f9 (w:=w) ho A (e:=a.eval) rfl p.able;unfold Oper.wp;rw[G];simp only[Oper.upon];have x:l.args.size=args.length:=by simpa using e1.symm
 refine(p.calls Z w (l.args.map a.eval) z T (by simp[x]) ?_).mono ?_
 ·intro j t V;obtain⟨y,hy,N⟩:=e2 j (renTV n t) (by rw[u9,V];rfl);refine⟨a.eval y,?_,g3 t _ (p.sA t (u5 V)) (be u y _ N)⟩;rw[aaS];have:l.args[j]?=some y:=by simpa using hy
  rw[this];rfl
 rintro e Y ⟨v,rfl,R,U,L⟩;rw[<- S]at U;exact hK v Y (g4 v Y R U L q.dst)
structure Yh (ops:Array Oper) (m:Nat) (f:FuncId) (args:List TV) (fa:Nat) (F:List OObj) (s:AS):Prop where
 ts:cwTs ops m s=some (f,args.map (renTV fa))
 fam:s.H fa=F.map (renO fa)
def Rx (c:Array Oper) (m:Nat) (r:TV) (b:Nat) (e:List OObj) (s:AS):AS:=AS.put ⟨s.tmps.map (aP (kF b)),aw s.H b (e.map (renO b))⟩ (cwD c m) (renTV b r)
theorem Kh (m:Nat) {args:List TV} (x:qr P g args b c h) (D:Nat) (p:List (ao P)) (A:List Nat) {id:Nat} {Q:Exit->AS->Prop} (E:D<=4999) (G:m<f.toList.length) (n:aT P (p.map ao.a) A (aJ f (f.toList.take m) 0) (some s) (fun B=>Yh f m g args D b B/\aT P (p.map ao.a) A (aJ f (f.toList.drop (m+1)) (m+1)) (some (Rx f m h D c B)) (Q .normal))):bo P (.region id f false) Q s:=fun w0 O X a w r0=>by
 obtain⟨B,N,⟨q,W⟩,R⟩:=aO P (p.map ao.a) A f _ 0 s _ n;obtain⟨z,S,T⟩:=aO P (p.map ao.a) A f _ (m+1) _ _ R;obtain⟨o,I⟩: ∃o,f[m]?=some o:=⟨f[m],by simp at G;simp[G]⟩;unfold cwTs at q;rw[I]at q;simp only at q;split at q
 ·rename_i l U y;split at q
  ·rename_i f' u;split at q
   ·rename_i ts L;injection q with q
    injection q with q Y
    subst q Y;refine wp_region ?_;have K:f.size=(f.toList.take m).length+(1+(f.toList.drop (m+1)).length):=by simp at G⊢;omega
    rw[K,aax,<- abf,aaO];have H:(f.toList.take m).length=m:=by rw[abc];omega
    refine mo (ao.ok p) (f.toList.take m) 0 s B a w (fun j o t=>?_) N r0 fun C M Z=>?_
    ·rw[aaH]at t;split at t
     ·simpa using t
     cases t
    rw[H,abX 1,aa1];simp only[wpOps,I];rw[if_pos (by simp[Region.wanted,U])];refine .inl (Og Z y u x E L W fun v w1 J=>?_);refine ic (ao.ok p) (Q:=fun e C M=> ∃z,Q e z/\da w0 O X z C M) (f.toList.drop (m+1)) (m+1) _ z _ _ (fun j o t=>?_) S ?_ (fun C M V=>⟨z,T,V⟩)
    ·rw[aaN]at t;simpa using t
    have:cwD f m=o.dst:=by unfold cwD;rw[I];rfl
    unfold Rx;rw[this];exact J
   cases q
  cases q
 cases q
theorem Fs (m:Nat) {args:List TV} (l:qr P g args b c h) (n:Nat) (j:List (ao P)) (t:List Nat) {id:Nat} {Q:Exit->AS->Prop} (q:n<=4999) (v:m<f.toList.length) (e: ∀K:AS->Prop,(∀o,(Yh f m g args n b o/\ ∀K:AS->Prop,(∀u,bo P p Q u->K u)->aT P (j.map ao.a) t (aJ f (f.toList.drop (m+1)) (m+1)) (some (Rx f m h n c o)) K)->K o)->aT P (j.map ao.a) t (aJ f (f.toList.take m) 0) (some s) K):bo P (.seq (.region id f false) p) Q s:=
 ai (Kh m l n j t q v (e _ fun o ⟨x,z⟩=>⟨x,z _ fun _ e=>e⟩))
end
end
section
section
variable {P:Program} {k:Nat} {s s':AS} {Q:Exit->AS->Prop}
theorem xp {x:AV} (F:(o n).length<=1) (h:AV.rel l o e w x j):aN (kM n) x=x:=by
 cases x with
 |fn f a G=>
  obtain⟨vs,_,z,_,A⟩:=h;refine if_neg ?_;simp only[List.any_eq_true,kM,aaF,beq_iff_eq,bne_iff_ne];rintro⟨q,C,rfl,E⟩;obtain⟨m,B⟩:=abl.1 C;obtain⟨u,_,t,_,_,y,_⟩:=A m q B;have:=(aaf.1 y).1;omega
 |p x=>rfl
 |junk=>rfl
 |sl a r D len=>
  obtain⟨t,y,_⟩:=h;refine if_neg ?_;simp only[kM,aaF,beq_iff_eq,bne_iff_ne];rintro⟨rfl,z⟩;have:=(aaf.1 y).1;omega
 |ptr a r i g=>
  obtain⟨t,b,c,y,_⟩:=h;refine if_neg ?_;simp only[kM,aaF,beq_iff_eq,bne_iff_ne];rintro⟨rfl,z⟩;have:=(aaf.1 y).1;omega
theorem tc {c:List AV} (m:(o n).length<=1) (h:bI l o e w c j):c.map (aN (kM n))=c:=by
 obtain⟨vs,_,_,f⟩:=h
 conv=>rhs;rw[<- ab0 c]
 refine aaA fun x p=>?_
 obtain⟨b,g⟩:=acU p;obtain⟨u,_,_,q⟩:=f b x g;exact xp m q
theorem OJ (m:(o n).length<=1) (c:h.rel l o e w j):aP (kM n) h=h:=by
 cases h with
 |one x=>exact congrArg TV.one (xp m c)
 |agg p=>exact congrArg TV.agg (tc m c)
 |fn f p=>obtain⟨u,q,_⟩:=c;exact congrArg (TV.fn f) (tc m q)
 |tup A=>
  obtain⟨vs,_,_,r⟩:=c;refine congrArg TV.tup ?_
  conv=>rhs;rw[<- ab0 A]
  refine aaA fun x z=>?_
  obtain⟨b,p⟩:=x;obtain⟨g,y⟩:=acU z;obtain⟨u,_,B⟩:=r g b p y;rcases B with⟨_,C⟩|⟨_,x,rfl,D⟩
  ·exact congrArg (Prod.mk b) (tc m C)
  simp only[aaC,aaR,xp m D,id]
theorem K9 {b:World} {X:Nat->Prop} {a:Act} (g:(s.H n).length<=1) (h:da w e X s a b):s.tmps.map (aP (kM n))=s.tmps:=by
 obtain⟨_,_,o,_,c⟩:=h
 conv=>rhs;rw[<- ab0 s.tmps]
 refine aaA fun x l=>?_
 obtain⟨j,f⟩:=acU l;obtain⟨u,_,m⟩:=c j x f;exact OJ g m
def NM (b:Nat) (c:List OObj) (s:AS):AS:=⟨s.tmps,aw s.H b (c.map (renO b))⟩
def YI (b:Array Oper) (m:Nat) (r:TV) (e:Nat) (c:List OObj) (s:AS):AS:=AS.put (NM e c s) (cwD b m) r
theorem vh {d:Option Tmp}:NM n b (s.put d h)=(NM n b s).put d h:=by cases d<;>rfl
def WA (b:Array Oper) (m:Nat):Bool:=(match b[m]? with|some o=>o.dst.isSome|none=>false)&&((List.range m).all fun i=>((nB b.toList []).getD m 0).testBit i)&&
 (List.range b.size).all fun j=>decide (j<=m)||(((nB b.toList []).getD j 0).testBit m&&match b[j]? with|some o=>nH o.op&&o.guard.isNone|none=>false)
theorem Hf {b:List (cB P)} {g:List Nat} {i:Nat} (c:nH q.op=true) (e:q.guard=none):aS P b g f i q s=(i7 P s.ev q.op).map (s.put q.dst):=by
 unfold aS;rw[e];simp only;unfold dG;rw[if_pos c]
theorem Ax {M:cB P} {b:List (cB P)} {g:List Nat} {i:Nat} (j:M.i≠i):aS P (M::b) g f i q s=aS P b g f i q s:=by
 have e:(M::b).find? (·.i==i)=b.find? (·.i==i):=by
  rw[adj];have:(M.i==i)=false:=by simpa using j
  rw[this]
 have h: ∀(d:Nat) (ev:Operand->Option TV) (H:OH) (op:Op),b9 P (M::b) g i d ev H op=b9 P b g i d ev H op:=fun d ev H op=>by
  cases op with
  |call c=>
   unfold b9;rw[e]
  |_=>rfl
 unfold aS dG;simp only[h]
theorem Eo {M:cB P} {b:List (cB P)} {e:List Nat} {c:Array Oper}: ∀(l:List Nat) (s:AS),(∀i∈l,M.i≠i)->cw P (M::b) e c l s=cw P b e c l s
 |[],_,_=>rfl
 |i::l,s,h=>by
  simp only[cw];have:de P (M::b) e c i s=de P b e c i s:=by
   unfold de;split
   ·exact Ax (h i (by simp))
   rfl
  rw[this];cases de P b e c i s with
  |none=>rfl
  |some g=>exact Eo l g fun j f=>h j (by simp[f])
theorem JI {f:Nat} {e:List OObj} {w it':List (cB P)} {n:List Nat} {b:Array Oper}: ∀(l:List Nat) (s s':AS),(∀j∈l,∃o,b[j]?=some o/\nH o.op=true/\o.guard=none)->cw P w n b l (NM f e s)=some s'-> ∃t,cw P it' n b l s=some t/\s'=NM f e t
 |[],s,s',_,h=>by
  simp only[cw]at h;injection h with h
  exact⟨s,rfl,h.symm⟩
 |j::l,s,s',g,h=>by
  obtain⟨o,q,r,u⟩:=g j (by simp);simp only[cw]at h⊢;obtain⟨y,c,p⟩:=aaw.1 h;unfold de at c⊢;rw[q]at c⊢;simp only at c⊢;rw[Hf r u]at c⊢;obtain⟨t,x,m⟩:=u6.1 c;rw[show i7 P (AS.ev s) o.op=some t from x];rw[<- vh]at m;subst m;simp only[aaT,aa8];exact JI l _ _ (fun i v=>g i (by simp[v])) p
theorem rL {m:Nat} {p:Nat->Bool} (g:m<=n) (c: ∀j,j<m->p j=true) (e: ∀j,j<n->m<=j->p j=false):lw n p=List.range m:=by
 unfold lw;have f:List.range n=List.range m++List.range' m (n-m):=by
  have:=abf (s:=0) (m:=m) (n:=n-m);rw[show m+(n-m)=n by omega,aaO]at this;rw[aax,aax];exact this.symm
 rw[f,adv,ac1.2 (fun j b=>c j (aaK.1 b)),abN.2,abd];intro j b;have:=acS.1 b;simp[e j (by omega) this.1]
theorem Kp (bR:P.follows .mixedOrders=true) (y:Nat) {args:List TV} (a4:lP P g args n m b c (.raw j)) (J:Nat) (z:List (ao P)) (I:List Nat) {id:Nat} (hd:bX [] f=true) (af:eR k f=true) (hE:WA f y=true) (hk:n<args.length) (bb:0<m) (V:gN n 0 args=true) (al: ∀o∈b,selfO 0 o) (ab: ∀o∈c,selfO 0 o) (br:J<=4999) (hF:b.length=1) (a1:b.all (fun o=>o.elems.all fun e=>e.all isPure)=true) (hm:y<f.size) (h:aT P (z.map ao.a) I (aJ f (f.toList.take y) 0) (some s) (fun L=>RE f y g args n m J b L/\aT P [] I (aJ f (f.toList.drop (y+1)) (y+1)) (some (YI f y (.raw j) J c L)) (Q .normal))):eY P k (.region id f true) Q s:=fun v0 w0 O X a w r=>by
 obtain⟨L,h1,⟨C,q2⟩,h2⟩:=aO P (z.map ao.a) I f _ 0 s _ h;obtain⟨s2,h3,h4⟩:=aO P [] I f _ (y+1) _ _ h2;obtain⟨o,ho⟩: ∃o,f[y]?=some o:=⟨f[y],by simp[hm]⟩;have a6:cwD f y=o.dst:=by unfold cwD;rw[ho];rfl
 unfold cwTs at C;rw[ho]at C;simp only at C;split at C
 case h_2=>cases C
 rename_i l hg U;split at C
 case h_2=>cases C
 rename_i f' R;split at C
 case h_2=>cases C
 rename_i ts bl;injection C with C
 injection C with C q3
 subst C q3;simp only[WA,aaF,aah,aaK,abV,decide_eq_true_eq]at hE;obtain⟨⟨av,a0⟩,bn⟩:=hE;rw[ho]at av;obtain⟨d,a5⟩:=adM.1 av;have bw:(L.H J).length=1:=by rw[q2,aa0,hF]
 let M:cB P:=⟨y,f',(args.set n (.one (.sl J 0 0 m))).map (ib L.H),⟨[],.raw j⟩⟩
 -- the operations ahead
 have bx:(f.toList.take y).length=y:=by rw[abc];simp;omega
 have g1:cw P (z.map ao.a) I f (List.range y) s=some L:=by
  have:=fA (P:=P) (items:=z.map ao.a) (ow:=I) (f.toList.take y) 0 s (fun u o A=>by
   rw[aaH]at A;split at A
   ·simpa using A
   cases A)
  rw[h1,bx,<- aax]at this;exact this.symm
 have ap:cw P (M::z.map ao.a) I f (List.range y) s=some L:=by
  rw[Eo _ _ fun i hi=>?_]
  ·exact g1
  have:=aaK.1 hi;show y≠i;omega
 -- the call, as if it left memory as it is
 have G:aS P (M::z.map ao.a) I f y o L=some (L.put o.dst (.raw j)):=by
  obtain⟨dst,op,cl,pos,ci,cm⟩:=o;simp only at U hg a5;subst U hg a5;obtain⟨callee,bm,cp⟩:=l;simp only at R;subst R;have b5:(args.set n (.one (.sl J 0 0 m))).all (dV true L.H)=true:=by
   rw[aah];intro t ht;obtain⟨u,A⟩:=acU ht;by_cases ba:u=n
   ·subst ba;rw[aa2 hk]at A;injection A with A
    subst A;obtain⟨o1,bp⟩: ∃o1,b=[o1]:=adX.1 hF;subst bp;simp only[dV,q2,aaC,aaR,acj,adL,renO];simp only[List.all_cons,List.all_nil,Bool.and_true,aah]at a1;rw[List.all_map,aah];intro e he;simp only[Function.comp,List.all_map,aah];intro x hx;have:=a1 e he x hx;cases x<;>first|rfl|cases this
   rw[aaI (abD ba)]at A;have:=lh (i:=0) V (by omega) A;cases t with
   |one x=>cases x<;>first|rfl|cases this
   |agg cs=>exact this
   |fn q cs=>exact this
   |tup ts=>cases this
  simp only[aS,dG,nH,SQ,yD,gn,b9,aa5,if_false,adj,beq_self_eq_true,M,bl];rw[if_pos ⟨trivial,trivial,b5,rfl⟩];rfl
 have ac:List.range f.size=List.range y++y::List.range' (y+1) (f.size-(y+1)):=by
  have:=abf (s:=0) (m:=y) (n:=f.size-y);rw[show y+(f.size-y)=f.size by omega,aaO,show f.size-y=f.size-(y+1)+1 by omega,aa1]at this;rw[aax,aax];exact this.symm
 have S: ∀u,y<u->u<f.size->((nB f.toList []).getD u 0).testBit y=true/\ ∃o,f[u]?=some o/\nH o.op=true/\o.guard=none:=fun u ad a9=>by
  rcases bn u a9 with h|⟨h,h'⟩
  ·omega
  refine⟨h,?_⟩;split at h'
  ·rename_i oj b0;rw[aaF]at h';exact⟨oj,b0,h'.1,by simpa using h'.2⟩
  cases h'
 have g2:cw P [] I f (List.range' (y+1) (f.size-(y+1))) (NM J c (L.put o.dst (.raw j)))=some s2:=by
  have:=fA (P:=P) (items:=[]) (ow:=I) (f.toList.drop (y+1)) (y+1) (YI f y (.raw j) J c L) (fun u o A=>by
   rw[aaN]at A;simpa using A)
  rw[h3,adP,acF]at this;unfold YI at this;rw[a6,<- vh]at this;exact this.symm
 obtain⟨sF,g3,rfl⟩:=JI (it':=M::z.map ao.a) _ _ _ (fun u A=>by
  obtain⟨b1,b2⟩:=acS.1 A;exact(S u (by omega) (by omega)).2) g2
 have bh:cw P (M::z.map ao.a) I f (List.range f.size) s=some sF:=by
  rw[ac,iq,ap];simp only[aa8,cw];unfold de;rw[ho];simp only;rw[G];exact g3
 refine wp_region_any bR ?_;have Y:kL k v0 w0 O X s a {w with drawn:=w.drawn+1}:=by
  obtain⟨⟨C,q2,ρ,a8,an⟩,Z⟩:=r;have e:Ext w {w with drawn:=w.drawn+1}:=⟨rfl,rfl,rfl,aaq _,fun _ _=>rfl⟩;have an:aX X ρ s a w:=an;exact⟨⟨C,q2,ρ,a8.grow e,an.grow e⟩,Z⟩
 refine mA (sep:=[]) (kB hd (by simp)) hd (Q:=fun e a' w'=> ∃s',Q e s'/\kL k v0 w0 O X s' a' w') (fun p s a w=>kL k v0 w0 O X (if p y then NM J c s else s) a w) ⟨d9 r.1,fun x hx=>by simp at hx⟩ bh (fun p a w a2 W=>⟨_,h4,by
  rw[if_pos (a2 y hm)]at W;exact W⟩) (fun p i o' s' cg a w K B aa bq Z W hK=>?_) f.size (Array.replicate f.size false) s a _ (by simp) ?_ ?_ ?_ ?_
 ·obtain⟨hc,a3,E⟩:=bq;have a7:i<f.size:=(aan.1 B).1;have N:cq p i i=true:=by simp[cq]
  rcases abx i y with T|T|T
  ·have D:p y=false:=by
    cases D:p y with
    |false=>rfl
    |true=>
     have:=iE hc (y+1) y (by omega) hm D (a0 i T);rw[aa]at this;cases this
   rw[D]at W;rw[Ax (show y≠i by omega)]at Z;have ag:(y==i)=false:=by simp;omega
   exact EG (ao.ok z) W (jI af B) Z fun v w' Y=>hK v w' (by simpa[cq,D,ag] using Y)
  ·subst T;rw[ho]at B;injection B with B
   subst B;have cc:lw f.size p=List.range i:=rL (by omega) (fun u A=>by
    have:=iE a3 (i+1) i (by omega) hm N (a0 u A);have ae:(u==i)=false:=by simp;omega
    simpa[cq,ae] using this) (fun u ad a9=>by
    cases ah:p u with
    |false=>rfl
    |true=>
     by_cases ae:u=i
     ·subst ae;rw[aa]at ah;cases ah
     have:=iE hc (u+1) u (by omega) ad ah (S u (by omega) ad).1;rw[aa]at this;cases this)
   rw[cc,ap]at E;injection E with E
   subst E;rw[G]at Z;injection Z with Z
   subst Z;rw[aa,if_neg (by decide)]at W;rw[if_pos (by simp[Region.wanted,hg])];refine DW W.1 U R a4 br hk bb bl V q2 al ab fun v w1 bc=>hK v w1 ?_
   rw[K9 (by omega) W.1]at bc;rw[if_pos N,vh];exact⟨bc,by rw[mz v (jI af ho)];exact W.2⟩
  obtain⟨b1,o2,b2,b3,b4⟩:=S i T a7;rw[B]at b2;injection b2 with b2
  subst b2;have D:p y=true:=by
   have:=iE a3 (i+1) i (by omega) a7 N b1;have ag:(y==i)=false:=by simp;omega
   simpa[cq,ag] using this
  rw[D]at W;rw[Hf b3 b4]at Z;obtain⟨t,c1,c2⟩:=u6.1 Z;have:aS P [] I f i o' (NM J c s')=some (NM J c cg):=by
   rw[Hf b3 b4,show i7 P (NM J c s').ev o'.op=some t from c1,<- c2,vh];rfl
  exact EG (fun it bt=>by simp at bt) W (jI af B) this fun v w' Y=>hK v w' (by simpa[cq,D] using Y)
 ·intro u o ho hp;have A:u<f.size:=(aan.1 ho).1;simp[A]at hp
 ·exact aaj (abT _ _) (by simp)
 ·have:lw f.size (fun u=>(Array.replicate f.size false).getD u true)=[]:=by
   unfold lw;rw[abN];intro u A;have:=aaK.1 A;simp[this]
  rw[this];rfl
 have:(Array.replicate f.size false).getD y true=false:=by simp[hm]
 simp only[this];exact Y
theorem Fx (D:P.follows .mixedOrders=true) (l:Nat) {args:List TV} (v:lP P g args n m b c (.raw j)) (x:Nat) (q:List (ao P)) (E:List Nat) {id:Nat} (I:bX [] f=true) (C:eR k f=true) (G:WA f l=true) (J:n<args.length) (w:0<m) (t:gN n 0 args=true) (u: ∀o∈b,selfO 0 o) (r: ∀o∈c,selfO 0 o) (B:x<=4999) (H:b.length=1) (A:b.all (fun o=>o.elems.all fun e=>e.all isPure)=true) (L:l<f.size) (h: ∀K:AS->Prop,(∀z,(RE f l g args n m x b z/\ ∀K:AS->Prop,(∀s',eY P k p Q s'->K s')->aT P [] E (aJ f (f.toList.drop (l+1)) (l+1)) (some (YI f l (.raw j) x c z)) K)->K z)->aT P (q.map ao.a) E (aJ f (f.toList.take l) 0) (some s) K):eY P k (.seq (.region id f true) p) Q s:=
 bT (Kp D l v x q E I C G J w t u r B H A L (h _ fun z ⟨M,N⟩=>⟨M,N _ fun _ h=>h⟩))
end
end
end Go.Proofs.YtalmoejhjceflaaGreat
