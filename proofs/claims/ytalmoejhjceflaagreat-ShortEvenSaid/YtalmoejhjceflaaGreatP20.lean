/-
  Part 21 of a proof (walks and plain facts).
-/
import Derived.Test.YtalmoejhjceflaaGreatP19
set_option linter.all false
set_option maxRecDepth 100000
set_option maxHeartbeats 64000000
open Nat renaming reduceAdd → aa
open Nat renaming reduceEqDiff → ab
open List renaming replicate → ae
namespace Go.Proofs.YtalmoejhjceflaaGreat
open Go.RowKit Go.Proofs.Tryz
variable {n m:Nat} {b:Code} {x:Int} {c:OObj} {e:Array Oper} {f:List Int} {g:FF} {s:AS}
def gy (g:OObj) (a e:Nat):AV->AV
 | .sl b r c len=>if b=a/\r=e then .p (.sl (((g.elems.take (c+len)).drop c).map (List.map tX)))else .sl b r c len
 | .ptr b r i j=>if b=a/\r=e then .junk else .ptr b r i j
 | .fn f b h=>if b=a then .junk else .fn f b h
 |x=>x
theorem Jb (e:OObj) (a j:Nat):og (gy e a j):=fun f b g=>by
 by_cases h:b=a
 ·exact .inl (if_pos h)
 exact .inr ⟨b,g,if_neg h,rfl,fun n q c=>⟨q,c,if_neg fun k=>h k.1⟩⟩
def GM (b:OObj) (a c:Nat):TV->TV
 | .one x=> .one (gy b a c x)
 | .agg e=> .agg (e.map (gy b a c))
 | .fn f e=> .fn f (e.map (gy b a c))
 | .tup g=> .tup (g.map fun t=>(t.1,t.2.map (gy b a c)))
def pM (b:OObj) (a c:Nat) (o:OObj):OObj:={o with elems:=o.elems.map (List.map (gy b a c))}
theorem EJ {a:Nat} {x:AV} (h:bz a x):bz a (gy c a n x):=by
 cases x with
 |sl b r e len=>simp only[gy];split<;>first|trivial|exact h
 |ptr b r i j=>simp only[gy];split<;>first|trivial|exact h
 |fn f b g=>simp only[gy];split<;>first|trivial|exact h
 |_=>exact h
theorem Cj {a:Nat} {y:AV} (e:m≠a) (h:bz m y):gy c a n y=y:=by
 cases y with
 |sl b r g len=>have h:b=m:=h;subst h;exact if_neg fun k=>e k.1
 |ptr b r i j=>have h:b=m:=h;subst h;exact if_neg fun k=>e k.1
 |fn f b l=>have h:b=m:=h.1;subst h;exact if_neg e
 |_=>rfl
theorem un (a l:Nat) {o0:OObj} (K:(s.H a)[l]?=some o0) (a3:dB o0):bv s ⟨s.tmps.map (GM o0 a l),aw s.H a (((s.H a).set l {o0 with elems:=[]}).map (pM o0 a l))⟩:=by
 rintro w0 O X ap w ⟨h1,a5,L,g,ab⟩;have ab:aT X L s ap w:=ab;generalize ad:aw s.H a (((s.H a).set l {o0 with elems:=[]}).map (pM o0 a l))=H1;generalize Y:(fun x y=>if x=a/\y=l then none else L x y:Rho)=ρ1;have W:ρ1 a l=none:=by rw[<- Y];exact if_pos ⟨rfl,rfl⟩
 have J: ∀x y,¬(x=a/\y=l)->ρ1 x y=L x y:=fun x y h=>by rw[<- Y];exact if_neg h
 have af: ∀x,x≠a->H1 x=s.H x:=fun x h=>by rw[<- ad];exact ay h
 have ae: ∀y:Nat,(H1 a)[y]?=if y=l then some {o0 with elems:=[]}else((s.H a)[y]?).map (pM o0 a l):=fun y=>by
  rw[<- ad,aI,XK,Yz];by_cases I:l=y
  ·subst I;rw[if_pos rfl,if_pos (XN.1 K).1,if_pos rfl];rfl
  rw[if_neg I,if_neg (Zl I)]
 have Q: ∀(x y:Nat) q,(H1 x)[y]?=some q->(x=a/\y=l/\q={o0 with elems:=[]})\/(¬(x=a/\y=l)/\ ∃m,(s.H x)[y]?=some m/\q=pM o0 a l m):=fun x y q h=>by
  by_cases E:x=a
  ·subst E;rw[ae]at h;by_cases I:y=l
   ·rw[if_pos I]at h;injection h with h
    exact .inl ⟨rfl,I,h.symm⟩
   rw[if_neg I]at h;obtain⟨m,A,M⟩:=XI.1 h;exact .inr ⟨fun k=>I k.2,m,A,M.symm⟩
  rw[af x E]at h;refine .inr ⟨fun k=>E k.1,q,h,?_⟩;have hs:=g.self x y q h;have:q.elems.map (List.map (gy o0 a l))=q.elems:=zU fun e D z T=>Cj E (hs e D z T)
  unfold pM;rw[this]
 have ah: ∀(x y:Nat) q,(s.H x)[y]?=some q-> ¬(x=a/\y=l)-> ∃q',(H1 x)[y]?=some q'/\q'.es=q.es/\q'.elems.length=q.elems.length:=fun x y q h S=>by
  by_cases E:x=a
  ·subst E;exact⟨pM o0 x l q,by rw[ae,if_neg fun k=>S ⟨rfl,k⟩,h];rfl,rfl,by simp[pM]⟩
  exact⟨q,by rw[af x E];exact h,rfl,rfl⟩
 have C: ∀(x y:Nat) q b c,(H1 x)[y]?=some q->ρ1 x y=some (b,c)-> ¬(x=a/\y=l)/\L x y=some (b,c)/\ ∃m,(s.H x)[y]?=some m:=fun x y q b c h e=>by
  rcases Q x y q h with⟨rfl,rfl,_⟩|⟨S,m,A,_⟩
  ·rw[W]at e;cases e
  exact⟨S,by rw[<- J x y S];exact e,m,A⟩
 have ag: ∀b,Xo X ρ1 H1 b->Xo X L s.H b:=fun b B=>by
  rcases B with B|⟨x,y,q,n,A,M⟩
  ·exact .inl B
  obtain⟨_,F,m,R⟩:=C x y q b n A M;exact .inr ⟨x,y,m,n,R,F⟩
 have a2: ∀b c,L a l=some (b,c)-> ¬Xo X ρ1 H1 b:=fun b c hr hX=>by
  rcases hX with hX|⟨x,y,q,n,A,M⟩
  ·exact(g.old a l o0 b c K hr).2 hX
  obtain⟨g0,F,m,R⟩:=C x y q b n A M;exact g0 (g.inj x y a l m o0 b n c R K F hr)
 have aa: ∀x u,isPure x=true->AV.rel L s.H (Xo X L s.H) w x u->bO (Xo X ρ1 H1) w (tX x) u:=fun x u hp h=>by
  cases x<;>first|exact bO.weaken (fun b _ B=>ag b B) h|cases hp
 have G: ∀x v,AV.rel L s.H (Xo X L s.H) w x v->AV.rel ρ1 H1 (Xo X ρ1 H1) w (gy o0 a l x) v:=fP (Jb o0 a l) fun x v S h=>by
  cases x with
  |fn=>cases S
  |p x=>exact bO.weaken (fun b _ B=>ag b B) h
  |sl b r a7 len=>
   simp only[gy];by_cases B:b=a/\r=l
   ·rw[if_pos B];obtain⟨rfl,rfl⟩:=B;exact nS (g.objs b r o0 K) K (fun e D y I u hu=>aa y u (a3 e D y I) hu) (a2) h
   rw[if_neg B];obtain⟨o,A,M,F⟩:=h;obtain⟨o',k1,k2,k3⟩:=ah b r o A B;exact⟨o',k1,by omega,by rw[J b r B,k2];exact F⟩
  |ptr b r i j=>
   simp only[gy];by_cases B:b=a/\r=l
   ·rw[if_pos B];trivial
   rw[if_neg B];obtain⟨o,b',c,A,M,F,R⟩:=h;obtain⟨o',k1,k2,k3⟩:=ah b r o A B;exact⟨o',b',c,k1,by rw[J b r B];exact M,by omega,by rw[k2];exact R⟩
  |junk=>trivial
 have N: ∀V v,bC L s.H (Xo X L s.H) w V v->bC ρ1 H1 (Xo X ρ1 H1) w (V.map (gy o0 a l)) v:=fun V v h=>by
  obtain⟨vs,A,M,F⟩:=h;refine⟨vs,A,by simpa using M,fun j x E=>?_⟩;rw[XK]at E;obtain⟨y,I,rfl⟩:=XI.1 E;obtain⟨u,u1,U,u3⟩:=F j y I;exact⟨u,u1,U,G y u u3⟩
 refine⟨h1,by simpa using a5,ρ1,⟨g.keep,fun x y q hq=>?_,fun x y x' y' q q' b c c' hq a4 e Z=>?_,fun x y q b c hq e=>?_,g.bar,fun x y q hq=>?_⟩,fun t x E=>?_⟩
 ·rcases Q x y q hq with⟨rfl,rfl,rfl⟩|⟨S,m,A,rfl⟩
  ·refine⟨fun e D=>(by cases D),(g.objs x y o0 K).2.1,?_⟩;rw[W]
  obtain⟨q1,q2,q3⟩:=g.objs x y m A;refine⟨fun e D=>?_,q2,?_⟩
  ·simp only[pM,XR]at D;obtain⟨Z,P,rfl⟩:=D;rw[YB];exact q1 Z P
  rw[J x y S];cases hr:L x y with
  |none=>rw[hr]at q3;simp[pM,q3]
  |some bc=>
   obtain⟨b,c⟩:=bc;rw[hr]at q3;obtain⟨cells,p1,p2,p3,p4,p5⟩:=q3;refine⟨cells,p1,p2,by simpa[pM] using p3,p4,fun i e j z D T=>?_⟩;simp only[pM,XK]at D;obtain⟨Z,P,rfl⟩:=XI.1 D;rw[XK]at T;obtain⟨z',ac,rfl⟩:=XI.1 T;obtain⟨u,u1,U,u3⟩:=p5 i Z j z' P ac;exact⟨u,u1,U,G z' u u3⟩
 ·obtain⟨_,F,m,R⟩:=C x y q b c hq e;obtain⟨_,a0,a6,a1⟩:=C x' y' q' b c' a4 Z;exact g.inj x y x' y' m a6 b c c' R a1 F a0
 ·obtain⟨_,F,m,R⟩:=C x y q b c hq e;exact g.old x y m b c R F
 ·rcases Q x y q hq with⟨rfl,rfl,rfl⟩|⟨S,m,A,rfl⟩
  ·intro e D;cases D
  intro e D z T;simp only[pM,XR]at D;obtain⟨Z,P,rfl⟩:=D;simp only[XR]at T;obtain⟨z',ac,rfl⟩:=T;have hs:=g.self x y m A Z P z' ac;by_cases E:x=a
  ·subst E;exact EJ hs
  rw[Cj E hs];exact hs
 simp only[XK]at E;obtain⟨y,I,rfl⟩:=XI.1 E;obtain⟨v,v1,v2⟩:=ab t y I;refine⟨v,v1,?_⟩;cases y with
 |one x=>exact G x v v2
 |agg V=>exact N V v v2
 |fn f V=>obtain⟨u,h1,h2⟩:=v2;exact⟨u,N V u h1,h2⟩
 |tup ts=>
  obtain⟨vs,A,M,F⟩:=v2;refine⟨vs,A,by simpa using M,fun j b V hj=>?_⟩;rw[XK]at hj;obtain⟨z,T,al⟩:=XI.1 hj;obtain⟨b',av⟩:=z;simp at al;obtain⟨rfl,rfl⟩:=al;obtain⟨u,u1,U⟩:=F j b' av T;refine⟨u,u1,?_⟩;rcases U with⟨U,u3⟩|⟨U,q,rfl,u4⟩
  ·exact .inl ⟨U,N _ _ u3⟩
  exact .inr ⟨U,_,rfl,G q u u4⟩
section
section
variable {P:Program} {w0 w w':World} {O X:Nat->Prop} {s s':AS} {a:Act} {ρ:Rho} {γ:Type} {fn:Func} {r:TV} {Post:World->(Nat->Prop)->Exit->Act->World->Prop}
theorem A0.weak (h:bv s s') (k:A0 P b Post s'):A0 P b Post s:=fun w0 X a w e f=>k w0 X a w e (h _ _ _ _ _ f)
theorem pq {y:Code} (h:bs P b (KO P fn r (jZ P fn r) (A0 P y (jZ P fn r))) s):A0 P (.seq b y) (jZ P fn r) s:=Gk h
theorem K7 (S:AS) {y:Code} (h:bs P b (KO P fn r (jZ P fn r) (fun s'=>bv s' S)) s) (k:A0 P y (jZ P fn r) S):A0 P (.seq b y) (jZ P fn r) s:=Gk (h.mono fun e s' h=>by
 cases e with
 |normal=>exact A0.weak h k
 |_=>exact h)
theorem il {f:Option Nat} {c:List Deferred} {Q:Exit->AS->Prop} {id:Nat} (h: ∀K:AS->Prop,(∀s',uw P f ρ c b Q s'->K s')->mf P e.toList (some s) K):uw P f ρ c (.seq (.region id e false) b) Q s:=K6 h
theorem q9 {c:Option Nat} {b:List Deferred} {Q:Exit->AS->Prop} {id:Nat} (h: ∀K:AS->Prop,(∀s',Q .normal s'->K s')->mf P e.toList (some s) K):uw P c ρ b (.region id e false) Q s:=K4 h
theorem DZ {id:Nat} {u k:Tmp} {Z:Array Tmp} {asg tail:Code} {f:FuncId} {ap:Nat×Nat×Nat} {fa:Nat} {F F':List OObj} {tml:List TV} {H:γ->OH} {jump:γ->Option Code} {hH: ∀g,wv (H g)} {ht:tml.all qa=true} {g0 g1:γ} {rf:TV} (z:List (an P)) (ow:List Nat) (hm: ∃o,e[e.size-1]?=some o/\o.guard=none/\o.op= .makeFunc (.func f) #[.tmp k] #[]/\o.dst=some u/\u≠k) (ab:0<e.size) (C: ∀(R:zc) (ρ:Rho) (T: ∀x r c,ρ x r≠some (R.l,c)),R.ps=Z->R.asg=asg->R.bd=b->pi P (DL R ρ tml H jump T hH ht) f [.one (.ptr 0 ap.1 ap.2.1 ap.2.2),.raw (.func (.yield R.l) #[] #[])] F F' g0 g1 rf) (Q:fa<=4999) (S:jump g0=none) (M:tml.all (Ll fa)=true) (h:aV P (z.map an.a) ow (aJ e (e.toList.take (e.size-1)) 0) (some s) (fun A=>A.ev (.tmp k)=some (.one (.ptr fa ap.1 ap.2.1 ap.2.2))/\u<A.tmps.length/\A.H fa=F.map (renO fa)/\H g0=aw A.H fa []/\tml.length=A.tmps.length/\ ∀(t:Nat) x,tml[t]?=some x->x= .one .junk\/(A.put (some u) (.one .junk)).tmps[t]?=some x)) (hQ: ∀(ρ:Rho) (ds:List Deferred),match jump g1 with
   |none=>uw P none ρ ds tail (fun p s'=>(p= .normal\/p= .ret)/\xx P fn r s') ⟨tml,H g1⟩
   |some c=>c= .ret/\xx P fn r ⟨tml,H g1⟩):A0 P (.seq (.seq (.region m e false) (.block id (.rangeFunc (.tmp u) Z asg b))) tail) (jZ P fn r) s:=fun w0 X a w L hr=>by
 obtain⟨A,h1,k1,k2,k3,k4,k5,k6⟩:=aO P (z.map an.a) ow e _ 0 s _ h;obtain⟨o,ho,hg,W,E,I⟩:=hm;have V:(e.toList.take (e.size-1)).length=e.size-1:=by rw[Y9];simp
 refine wp_seq (wp_seq ((wpIn_wide (n:=0)).1 (wpIn_region (F:=FW none) ?_)));rw[show e.size=(e.toList.take (e.size-1)).length+1 by omega,Ya,<- Zg,Yw];refine Av (e.toList.take (e.size-1)) 0 s A a w (fun j o y=>?_) h1 hr fun q w' r'=>?_
 ·rw[Yl]at y;split at y
  ·simpa using y
  cases y
 rw[V,YM,wpOpsIn_cons];unfold wpOpIn;rw[ho];simp only;rw[if_pos (by simp[Region.wanted,hg])];refine⟨fun _ _=>trivial,?_⟩;rw[show Oper.semAt (FW none).round q.eval o=execOp q.eval o from rfl];have B:(execOp q.eval o).run P w'= .ok (.value (.func (.func f) #[q.eval (.tmp k)] #[])) w':=by
  unfold execOp;rw[W];simp only;refine dm ?_;simp[Instr.makeFunc,Yb]
 rw[B];show(Code.block id (.rangeFunc (.tmp u) Z asg b)).wp P (Exit.then (tail.wp P (jZ P fn r w0 X)) (jZ P fn r w0 X)) (q.put o.dst (.func (.func f) #[q.eval (.tmp k)] #[])) w';rw[E];obtain⟨n1,K,ρ,G,Y⟩:=r';have r2:de w0 (fun _=>False) X (A.put (some u) (.one .junk)) (q.put (some u) (.func (.func f) #[q.eval (.tmp k)] #[])) w':=dY n1 K G Y trivial;have U:u<q.tmps.size:=Nat.lt_of_lt_of_eq k2 K.symm;have N:(q.put (some u) (.func (.func f) #[q.eval (.tmp k)] #[])).eval (.tmp k)=q.eval (.tmp k):=by
  show(q.tmps.setIfInBounds u _).getD k undef=q.tmps.getD k undef;rw[Zc,Zc,Zw I]
 refine wp_block ?_;refine OL (fs:= #[q.eval (.tmp k)]) (targs:=[.one (.ptr 0 ap.1 ap.2.1 ap.2.2)]) r2 L (by show(q.tmps.setIfInBounds u _)[u]?=_;rw[ZD U]) rfl (fun j t y=>?_) Q (by rw[fj];exact k3) (by rw[fj];exact k4) S ⟨by simpa[AS.put] using k5,k6⟩ M (fun R ρ T e1 e2 e3=>C R ρ T e1 e2 e3) (fun aa D w3 v=>?_)
 ·cases j with
  |succ j=>simp at y
  |zero=>
   simp at y;subst y;refine⟨_,rfl,.tmp k,?_,N⟩;show(A.tmps.set u _)[k]?=_;rw[Yy I];exact k1
 have:=hQ aa [{target:= .collected D,args:= #[]}];cases y:jump g1 with
 |none=>
  rw[y]at this;exact N0 L v this
 |some c=>
  rw[y]at this;obtain⟨rfl,J⟩:=this;exact wp_ret (yR L v v.rel J (.inr rfl))
end
end
structure uk where
 left:Int
 steps:List Int
 stop:Bool
variable {h:uk}
def AM (n m:Nat) (c:Int) (g:uk):uk×Bool:=if g.left<c\/c<0\/m<1\/n<m then(⟨g.left,g.steps,true⟩,false)else(⟨g.left-c,g.steps.set (m-1) (g.steps.getD (m-1) 0+c),false⟩,true)
def UG (n:Nat) (g:uk):Prop:=g.stop=false/\0<=g.left/\g.left<=1000000/\g.steps.length=n/\ ∀z∈g.steps,0<=z/\z+g.left<=1000000
theorem UI (b:UG n h) (j:(AM n m x h).2=true):UG n (AM n m x h).1:=by
 unfold AM at j⊢;split
 ·grind
 rename_i s;obtain⟨o,p,q,r,f⟩:=b;have t:0<=h.steps.getD (m-1) 0/\h.steps.getD (m-1) 0+h.left<=1000000:=by
  rw[Yf];cases e:h.steps[m-1]? with
  |none=>grind
  |some z=>exact f z (XH e)
 refine⟨rfl,by grind,by grind,by grind,fun z l=>?_⟩;grind
def Hz (n:Nat) (g:uk):OH:=Hm [(7,[⟨29,1,[[.p (.raw (.int .i64 (if g.stop=true then 9 else 0)))]]⟩]),(9,[⟨2,1,[[.p (.raw (.int .i64 g.left))]]⟩]),(900,[⟨28,1,[[.sl 900 1 0 n]]⟩,⟨3,1,lc fI g.steps⟩,⟨28,1,[[.p (.raw (.slice none 0 0))]]⟩])]
theorem NY (n:Nat) (g:uk):wv (Hz n g):=fun a o b e f x c=>by
 unfold Hz Hm at b;split at b
 ·simp only[XT]at b;subst b;simp only[XT]at f;subst f;simp only[XT]at c;subst c;rfl
 unfold Hm at b;split at b
 ·simp only[XT]at b;subst b;simp only[XT]at f;subst f;simp only[XT]at c;subst c;rfl
 unfold Hm at b;split at b
 ·simp only[Yo,Y3,or_false]at b;rcases b with rfl|rfl|rfl
  ·simp only[XT]at f;subst f;simp only[XT]at c;subst c;rfl
  ·obtain⟨z,_,rfl⟩:=XR.1 f;simp only[fI,X9,Yu,XT]at c;subst c;rfl
  simp only[XT]at f;subst f;simp only[XT]at c;subst c;rfl
 grind [Hm]
def W6 (g:uk):Option Code:=if g.stop=true then some .ret else none
def UH (g:uk):TV:=if g.stop=true then .tup [(false,[.p (.raw (.slice none 0 0))]),(false,[.p (.raw (.int .i64 9))])]else .tup [(false,[.p (.sl (ls fI g.steps))]),(false,[.p (.raw (.int .i64 0))])]
abbrev Rm:List TV:=(j4 (jk::jk::.one (.ptr 900 2 0 0)::.one (.ptr 7 0 0 0)::.one (.ptr 900 0 0 0)::.one (.ptr 9 0 0 0)::j16 (j16 (j16 (jk::jk::[])))))
theorem J2 {e:uk} (b:e.steps.length=h.steps.length): ∀(x r:Nat) (o:OObj),(Hz n h x)[r]?=some o-> ∃c:OObj,(Hz n e x)[r]?=some c/\c.es=o.es/\c.elems.length=o.elems.length:=fun x r o f=>by
 simp only[Hz,Hm]at f⊢;grind [lY]
theorem GZ {e:Type} {J:e->Prop} {b:Int->e->e×Bool} (h: ∀c g,J g->J (b c g).1): ∀(m:Nat) (x:Int) (g:e),J g->J (lpM b m x g).1
 |0,_,_,f=>f
 |m+1,x,g,f=>by
  have k:=h x g f;unfold lpM;generalize b x g=r at*
  obtain⟨j,t⟩:=r;cases t with
  |true=>exact GZ h m _ _ k
  |false=>exact k
theorem H8 {e:Type} {J:e->Prop} {j:Nat->Int->e->e×Bool} (h: ∀m c g,J g->J (j m c g).1) (f:FF) (n:Nat) (B:Int): ∀(k:Nat) (y:List Int) (g:e),J g->J (jf j f n B k y g).1
 |0,y,g,b=>h _ _ g b
 |k+1,y,g,b=>by
  have q:=h (n-(k+1)) (eQ f n B (k+1) (aR n y)-dR f n B (k+1) (aR n y)+1) g b;unfold jf;generalize j (n-(k+1)) (eQ f n B (k+1) (aR n y)-dR f n B (k+1) (aR n y)+1) g=r at*
  obtain⟨l,t⟩:=r;cases t with
  |true=>exact GZ (fun c g b=>H8 h f n B k (c::y) g b) _ _ _ q
  |false=>exact q
theorem UL {b:Type} {J:b->Prop} {j:Nat->Int->b->b×Bool} (h: ∀m c g,J g->J (j m c g).1) (f:FF) (n:Nat) (B:Int) (g:b) (e:J g):J (H6 j f n B g):=by
 unfold H6;split
 ·exact h _ _ g e
 exact H8 h f n B _ _ g e
theorem HJ (b:h.steps.length=n):(AM n m x h).1.steps.length=n:=by
 grind [AM]
theorem KU {a:Nat} {M:List (List Int)} (b:s.H a=UY a x n (n+1) n (ae n 0) f M):bv s ⟨s.tmps,aw s.H a (qP a x n n [] f M)⟩:=by
 have h:=lE (s:=s) a 1 (o:=⟨2,1,lc fI (ae n 0)⟩) (o':=⟨2,1,fK n++lc fI []⟩) (by rw[b];rfl) rfl rfl (by simp only[i9,lY,Yq,Zu];omega) fun i c e=>by
  grind [fK,lc,fI]
 grind
theorem Sx (n:Nat):ae n [AV.p (.raw (.int .i64 0))]=lc fI (ae n 0):=by simp[lc,fI]
theorem Pf {k:Int} (u:U1 n g) (O:isReducedM (mat n n g)=true) (P:WA n g x) (h0:0<=x) (X:x<=4611686018427387904) (hc:n=1\/x<1073741824) (y:0<=k) (A:k<=1000000):
  CallC prog 87 [dq (mat n n g),.raw (.int .i64 x),.raw (.int .i64 k)] ⟨[],UH (H6 (AM n) g n x ⟨k,ae n 0,false⟩)⟩:=by
 have ac:=u.n1;have T:=u.n16;have r:=aS n n g;have v:=fq (mat n n g);rw[O]at v;have N:=Jo u x;refine BL func87 rfl (by kernel_rfl) ?_;rw[ntmps87];refine pq ?_;refine R3 (k:=?_);show A0 _ _ _ _;refine K7 ⟨(dq (mat n n g)::.raw (.int .i64 x)::.raw (.int .i64 k)::jk::jk::jk::.one (.ptr 6 0 0 0)::.one (.ptr 7 0 0 0)::j16 (j16 (j16 (j4 ([]))))),Hm [(6,[⟨28,1,[[.p (.raw (.slice none 0 0))]]⟩]),(7,[⟨29,1,[[.p (.raw (.int .i64 0))]]⟩])]⟩ (am ?_) ?_
 ·refine bQ [⟨1,_,_,_,v⟩] (k:=ao rfl (ai (ar (k:=ao rfl (ar (k:=ao rfl (ar (k:=ao rfl (bK (k:=ao rfl ?_))))))))));by_cases S:n=1
  ·subst S;refine aK r (k:=ao rfl (ak ?_));refine aj ⟨rfl,rfl,trivial⟩ ?_;simp[wk]
  have hB:=hc.resolve_left S;refine aK r (k:=ao rfl (ak ?_));refine aj ⟨rfl,rfl,trivial⟩ ?_;simp[wk]
 refine pq ?_;refine Il 4 [] [] (by simp[wk]) (by decide) fun _ K=>?_;simp(disch:=omega) only[kd,aa,dq,r,ab];apply K
 refine⟨_,kN 8 36 900 rfl rfl rfl (by simp[dB,isPure]) (fun e Q j C=>by rw[Sx]at Q;exact bi 3 1 _ e Q j C) (by omega) (by omega) (by omega),by simp[wk],?_⟩;simp only[X9,Yu,P2,aaO,mb,fi,oE];intro _ K;simp(disch:=omega) only[kd,ab];apply K;show A0 _ _ _ _;refine A0.weak ((KQ 6 900 rfl (by simp[dB,isPure]) (by omega) (by omega)).trans (aj (tm:=(dq (mat n n g)::.raw (.int .i64 x)::.raw (.int .i64 k)::jk::jk::jk::.one (.ptr 900 2 0 0)::.one (.ptr 7 0 0 0)::.one (.ptr 900 0 0 0)::j16 (j16 (j16 (jk::jk::jk::[]))))) (l:=[(7,[⟨29,1,[[.p (.raw (.int .i64 0))]]⟩]),(900,[⟨28,1,[[.sl 900 1 0 n]]⟩,⟨3,1,lc fI (ae n 0)⟩,⟨28,1,[[.p (.raw (.slice none 0 0))]]⟩])]) ⟨rfl,?_,trivial⟩ ?_)) ?_
 ·rw[<- Sx];rfl
 ·simp[wk,mb,fi,oE,aw,Hm]
 refine pq ?_;refine bK (k:=?_);show A0 _ _ _ _;refine pq ?_;refine Vw [⟨2,_,_,_,N⟩] (k:=?_);show A0 _ _ _ _;refine A0.weak ((KU (a:=40) rfl).trans (aj (tm:=(j4 (jk::jk::.one (.ptr 900 2 0 0)::.one (.ptr 7 0 0 0)::.one (.ptr 900 0 0 0)::.one (.ptr 9 0 0 0)::.one (.ptr 40 0 0 0)::j16 (j16 (j16 (jk::[])))))) (l:=[(7,[⟨29,1,[[.p (.raw (.int .i64 0))]]⟩]),(9,[⟨2,1,[[.p (.raw (.int .i64 k))]]⟩]),(40,qP 40 x n n [] (aN (n+1) (dk g)) (eF n g n)),(900,[⟨28,1,[[.sl 900 1 0 n]]⟩,⟨3,1,lc fI (ae n 0)⟩,⟨28,1,[[.p (.raw (.slice none 0 0))]]⟩])]) ⟨rfl,rfl,rfl,rfl,trivial⟩ ?_)) ?_
 ·simp[wk]
 have s:UG n ⟨k,ae n 0,false⟩:=⟨rfl,y,A,by simp,fun z D=>by
  grind⟩
 have q:(uk.steps (H6 (AM n) g n x ⟨k,ae n 0,false⟩)).length=n:=UL (J:=fun b:uk=>b.steps.length=n) (fun m c b h=>HJ h) g n x _ (by simp);refine DZ (tml:=Rm) (H:=Hz n) (jump:=W6) (hH:=NY n) (ht:=rfl) (g0:=⟨k,ae n 0,false⟩) (g1:=H6 (AM n) g n x ⟨k,ae n 0,false⟩) (ap:=(0,0,0)) (fa:=40) (F:=qP 0 x n n [] (aN (n+1) (dk g)) (eF n g n)) (F':=qP 0 x n n [] (aN (n+1) (dk g)) (eF n g n)) (rf:= .tup []) (f:=131) (k:=41) [] [] ?_ ?_ ?_ (by omega) rfl rfl ?_ ?_
 ·simp
 ·decide
 ·intro R ρ hl I L M;refine Rp P (fun m c b hg X h2 h3 h4=>?_) (fun m c b h=>UI h) _ s;obtain⟨E,q2,q3,G,U⟩:=hg;refine F4 I rfl rfl (by simp[W6,E]) (J2 ((HJ G).trans G.symm)) ?_;rw[L,M];clear I L M hl N v P q s u O;obtain⟨left,steps,stop⟩:=b;simp only at E q2 q3 G U;subst E;obtain⟨z,D⟩: ∃z,steps[m-1]?=some z:=⟨_,X0 (by omega)⟩;have ad:=U z (XH D);have V:IntKind.i64.wrap ((m:Int)-1)=((m-1:Nat):Int):=by grind [aP]
  by_cases w:left<c
  ·have e:AM n m c ⟨left,steps,false⟩=(⟨left,steps,true⟩,false):=if_pos (.inl w);rw[e];refine il fun _ K=>?_;simp(disch:=omega) only[kd,mf,YX,pw,oN,Rm,Hz,xg];apply K
   refine q9 fun _ K=>?_;simp(disch:=omega) only[kd,mf,YX,pw,oN,xg];apply K
   refine⟨rfl,xF ?_⟩;refine zj (il fun _ K=>?_);simp(disch:=omega) only[kd,mf,YX,pw,oN,xg,ab];apply K;refine Bu rfl (fun _=>?_) (fun h=>by cases h);refine il fun _ K=>?_;simp(disch:=omega) only[kd,mf,YX,pw,oN,xg,ab];apply K
   refine Gj ?_;refine⟨?_,.inr ⟨rfl,rfl,rfl⟩⟩;funext j;by_cases Y:j=7
   ·subst Y;rfl
   by_cases o:j=900
   ·subst o;rfl
   simp_all[Hz,Hm,aw]
  have e:AM n m c ⟨left,steps,false⟩=(⟨left-c,steps.set (m-1) (steps.getD (m-1) 0+c),false⟩,true):=if_neg (by grind);have W:steps.getD (m-1) 0=z:=by grind
  rw[e,W];refine il fun _ K=>?_;simp(disch:=omega) only[kd,mf,YX,pw,oN,Rm,Hz,xg];apply K
  refine q9 fun _ K=>?_;simp(disch:=omega) only[kd,mf,YX,pw,oN,xg];apply K
  refine⟨rfl,xF ?_⟩;refine zj (il fun _ K=>?_);simp(disch:=omega) only[kd,mf,YX,pw,oN,xg,ab];apply K;refine Bu rfl (fun h=>by cases h) (fun _=>K5 ?_);show uw _ _ _ _ _ _ _;refine il fun _ K=>?_;simp(disch:=omega) only[kd,mf,YX,pw,oN,xg,ab,aP];apply K
  refine q9 fun _ K=>?_;simp(disch:=omega) only[kd,mf,YX,pw,oN,xg,ab,V,D,aP];apply K
  refine⟨?_,.inl ⟨rfl,rfl,rfl⟩⟩;funext j;by_cases Z:j=9
  ·subst Z;rfl
  by_cases o:j=900
  ·simp_all[Hz,Hm,aw,lc,fI]
  simp_all[Hz,Hm,aw]
 ·simp(disch:=omega) only[kd,YW,aa,Nat.reduceSub,Hz,Rm,ab];refine⟨by decide,by rw[gU];simp[lc],?_,?_⟩
  ·grind [aw]
  have hq: ∀l:List TV,SL [7,9,900] l Rm-> ∀(t:Nat) j,Rm[t]?=some j->j=jk\/l[t]?=some j:=fun l h t j C=>((AW h).2 t j C).imp_right fun h=>h.1
  exact hq _ (by unfold Rm;simp[wk])
 intro ρ ds;generalize H6 (AM n) g n x ⟨k,ae n 0,false⟩=b at*
 obtain⟨left,steps,stop⟩:=b;cases stop with
 |true=>
  refine⟨rfl,_,bv.refl _,?_,rfl⟩;simp(disch:=omega) only[kd,results87,Rm,Hz,ab,UH]
 |false=>
  show uw _ _ _ _ _ _ _;simp only at q;refine il fun _ K=>?_;simp(disch:=omega) only[kd,mf,YX,pw,oN,Rm,Hz,xg,ab];apply K
  refine Gj ⟨.inr rfl,_,un 900 1 (o0:=⟨3,1,lc fI steps⟩) rfl (bi _ _ _),?_,rfl⟩;simp only[X9,Yu,GM,gy,pM];simp(disch:=omega) only[kd,results87,ab,reduceCtorEq,pM,gy,UH];grind
abbrev OW (e:Int):TV:= .tup [(false,[.p (.raw (.slice none 0 0))]),(false,[.p (.raw (.int .i64 e))])]
theorem Pc (M:List (List Int)) (B k:Int) (h:isReducedM M=false):CallC prog 87 [dq M,.raw (.int .i64 B),.raw (.int .i64 k)] ⟨[],OW 6⟩:=by
 have b:=fq M;rw[h]at b;refine aB func87 rfl ntmps87 (aC (k:=ai (am (bQ [⟨1,_,_,_,b⟩] (k:=aD rfl (ar (k:=aF @results87)))))))
theorem Pd (M:List (List Int)) (B k:Int) (h:isReducedM M=true) (g:B<0\/4611686018427387904<B\/k<0\/1000000<k):CallC prog 87 [dq M,.raw (.int .i64 B),.raw (.int .i64 k)] ⟨[],OW 1⟩:=by
 have b:=fq M;rw[h]at b;refine aB func87 rfl ntmps87 (aC (k:=ai (am (bQ [⟨1,_,_,_,b⟩] (k:=ao rfl (ai ?_))))));by_cases c:B<0
 ·refine ar (k:=aD rfl (ak (aD rfl (ar (k:=aF @results87)))))
 refine ar (k:=ao rfl ?_);by_cases e:4611686018427387904<B
 ·refine ar (k:=aD rfl (ak (aD rfl (ar (k:=aF @results87)))))
 refine ar (k:=ao rfl ?_);by_cases f:k<0
 ·refine ar (k:=aD rfl (ak (aD rfl (ar (k:=aF @results87)))))
 refine ar (k:=ao rfl (bK (k:=aD rfl (ar (k:=aF @results87)))))
theorem Pe (M:List (List Int)) (B k:Int) (h:isReducedM M=true) (g:0<=B) (j:B<=4611686018427387904) (c:0<=k) (e:k<=1000000) (m:1<M.length) (f:M.length<=1000) (l:1073741824<=B):CallC prog 87 [dq M,.raw (.int .i64 B),.raw (.int .i64 k)] ⟨[],OW 9⟩:=by
 have b:=fq M;rw[h]at b;refine aB func87 rfl ntmps87 (aC (k:=ai (am (bQ [⟨1,_,_,_,b⟩] (k:=ao rfl (ai (ar (k:=ao rfl (ar (k:=ao rfl (ar (k:=ao rfl (bK (k:=ao rfl (ar (k:=aD rfl (ar (k:=aF @results87))))))))))))))))))
abbrev VT (b:Nat):PV:= .raw (.pointer (some ⟨b,0,none⟩))
abbrev Ss:List PV:=[.raw (.bool true)]
theorem UN (b:Nat) {i j:Nat} (q:i<n) (r:j<m) (u:n<=16) (t:m<=16) (h:I64 (g i j)):
  gn prog b 4 241 [.raw (.int .i64 (i:Int)),.raw (.int .i64 (j:Int)),.one (.p (.ptr (kB (mat n m g)))),.one (.p (VT b))] Ss ⟨[],.raw (.int .i64 (g i j))⟩ Ss:=by
 have s:=bu m g q;have o:=az (g i) r;have e:=Cl (g i j) h.bg;rw[VK h]at e;refine jJ func241 rfl (by kernel_rfl) ?_;rw[ntmps241];refine Bx 3 900 rfl rfl ?_;refine fz.weak (aj (tm:=(.raw (.int .i64 (i:Int))::rN j::.one (.p (.ptr (kB (mat n m g))))::.one (.ptr 900 0 0 0)::j16 (j4 (jk::[])))) (l:=[(900,[⟨4,1,[[.p (.raw (.bool true))]]⟩])]) ⟨rfl,trivial⟩ (by simp[wk,Ec,uH,ae])) ?_;refine jG (k:=S7 [⟨7,_,_,_,e⟩] (aE s o) (k:=jG (k:=jG (k:=?_))));refine pp ⟨Ss,rfl,rfl,.inr rfl,rfl,b9 rfl ?_ rfl⟩;simp(disch:=omega) only[kd,results241,rB,jb]
theorem Lr (b:Nat) (n c:Nat) (f:FF) (A:1<=n) (z:n<=16) (v:1<=c) (u:c<=16) (w: ∀i j,i<n->j<c->I64 (f i j)):
  gn prog b 4 240 [.raw (.int .i64 (n:Int)),.raw (.int .i64 (c:Int)),.fn 241 [.p (.ptr (kB (mat n c f))),.p (VT b)]] Ss ⟨[],dq (mat n c f)⟩ Ss:=by
 refine jJ func240 rfl (by kernel_rfl) ?_;rw[ntmps240];refine R4 (k:=cB (k:=bZ (cB (k:=?_))));refine jE (G:=jW n) (fun g=>⟨(jk::rN c::.fn 241 [.p (.ptr (kB (mat n c f))),.p (VT b)]::j4 (.one (.sl 11 0 0 n)::j4 (jk::rN n::rN g.i::j16 (j4 (j4 (j4 ([]))))))),Hm [(11,kI 11 n c g.i (part f g.i 0))]⟩) (fun _=>Ss) (fun g=>n-g.i) ⟨0,by omega⟩ ?_ rfl ?_
 ·refine aj ⟨?_,trivial⟩ ?_
  ·rfl
  simp[wk]
 rintro⟨i,x⟩;simp only;by_cases m:i<n
 ·have B:=zL (i:=i) (n:=n) 11 c m;have I:=mW (i:=i) (n:=n) 11 c x;have C:=aS i c (part f i 0);have D:=tC (i:=i) (n:=n) (c:=c) 11 (part f i 0) m (fun j y=>by grind [part]);have r:=vp (i:=i+1) (k:=i) (n:=n) 11 c (by omega);have J:=mW (i:=i+1) (n:=n) 11 c (by omega);have L:=dO (n:=i+1) c (part f i 0) (i:=i) (by omega);refine cB (k:=rh rfl (bZ (cz (cB (k:=j5 (aE B (aE @Yq (aE @ZR C))) (k:=?_))))));refine dG.weak (aj (tm:=(jk::rN c::.fn 241 [.p (.ptr (kB (mat n c f))),.p (VT b)]::j4 (.one (.sl 11 0 0 n)::rN i::j4 (.raw (.int .i64 (n:Int))::rN i::j16 (j4 (j4 (j4 ([])))))))) (l:=[(11,kI 11 n c (i+1) (part f i 0))]) ⟨?_,trivial⟩ (by simp[wk])) ?_
  ·first|exact D|rfl
  refine j5 r (k:=?_);refine jE (G:=jW c) (fun g=>⟨(jk::rN c::.fn 241 [.p (.ptr (kB (mat n c f))),.p (VT b)]::j4 (.one (.sl 11 0 0 n)::rN i::j4 (.raw (.int .i64 (n:Int))::rN i::j4 (j4 (jk::jk::jk::rN c::rN g.i::j4 (j4 (j4 (jk::jk::jk::[])))))))),Hm [(11,kI 11 n c (i+1) (part f i g.i))]⟩) (fun _=>Ss) (fun g=>c-g.i) ⟨0,by omega⟩ ?_ rfl ?_
  ·refine aj ⟨rfl,trivial⟩ ?_;simp[wk]
  rintro⟨j,y⟩;simp only;by_cases h:j<c
  ·have s:=UN b m h z u (w i j m h);have E:=dO (n:=i+1) c (part f i j) (i:=i) (by omega);have F:=az (part f i j i) h;refine cB (k:=rh rfl (bZ (cz (cB (k:=?_)))));refine jF ch 8 s [] [] (by kernel_rfl) (by kernel_rfl) (by rfl) (by rfl) fun _ K=>?_;simp(disch:=omega) only[kd,aa,r,E,F,gV];apply K
   show dG _ _ _ _ _ _ _;refine sY (k:=?_);refine⟨⟨j+1,by omega⟩,by grind,aj ⟨?_,trivial⟩ ?_,rfl⟩
   ·show _::_=_::_;rw[gd fun a b _ _=>iw f i j a b]
   simp[wk]
  have q:j=c:=by omega
  subst q;refine cB (k:=rc rfl (sY (k:=?_)));refine⟨⟨i+1,by omega⟩,by grind,aj ⟨?_,trivial⟩ ?_,rfl⟩
  ·grind [gd,jQ]
  simp[wk]
 have o:i=n:=by omega
 subst o;refine cB (k:=rc rfl (cB (k:=?_)));refine dG.weak ((bF 11 (ff (n:=i) (c:=c) (f:=part f i 0) (ER 11 i c (part f i 0)))).trans (aj (tm:=(j4 (jk::jk::dq (mat i c f)::j16 (j16 (j4 ([])))))) (l:=[]) trivial ?_)) ?_
 ·have e:=vi (H:=Hm [(11,kI 11 i c i (part f i 0))]) (d:=11) (n:=i) (c:=c) (f:=part f i 0) (ER 11 i c (part f i 0));rw[gA fun a b t _=>jP f a b t]at e;simp[wk];exact e.symm
 (refine lI ⟨.inr rfl,rfl,b9 rfl ?_ rfl⟩;simp(disch:=omega) only[kd,results240,dq])
theorem JD (n c:Nat) (f:FF) (e:1<=n) (o:n<=16) (g:1<=c) (m:c<=16) (r: ∀i j,i<n->j<c->I64 (f i j)):
  CallC prog 203 [dZ (mat n c f)] ⟨[],.tup [(false,[.p (.sl (ls (fR fI) (mat n c f)))]),(false,[.p (.raw (.bool true))])]⟩:=by
 have h:=C6 (mat n c f);rw[iE (nO f e o g m),aS,iS f e]at h;refine aB func203 rfl ntmps203 (aC (k:=bL [⟨1,_,_,_,h⟩] (k:=ai (ar (k:=ao rfl (ak ?_))))));refine bs.weak ((po 1 1 (cs:=kB (mat n c f)) rfl rfl).trans (aj (tm:=(jk::.one (.p (.ptr (kB (mat n c f))))::jk::jk::rN n::rN c::.one (.ptr 6 0 0 0)::j16 ([]))) (l:=[(6,[⟨4,1,[[.p (.raw (.bool true))]]⟩])]) ⟨rfl,trivial⟩ (by simp[wk,fb,dD]))) ?_;refine ai (uq 6 (cs:=Ss) rfl fun b=>?_);refine dG.weak (aj (tm:=(jk::.one (.p (.ptr (kB (mat n c f))))::jk::jk::rN n::rN c::cH b::j16 ([]))) (l:=[]) trivial (by simp[wk,rB,jb])) ?_;have q:=Lr b n c f e o g m r;refine gu 3 q [] [] (by kernel_rfl) (by rfl) (by rfl) fun _ K=>?_;simp only[kd,kB,dq,aa,cH,iK];apply K
 refine⟨rfl,?_⟩;show bs _ _ _ _;refine bs.weak (aj (tm:=(j4 (jk::jk::.one (.ptr 6 0 0 0)::dq (mat n c f)::j4 (j4 (j4 (jk::jk::jk::[])))))) (l:=[(6,[⟨4,1,[[.p (.raw (.bool true))]]⟩])]) ⟨rfl,trivial⟩ (by simp[wk,Ec,uH])) ?_;refine ai (bH (k:=ao rfl (ak (bH (k:=aF @results203)))))
theorem LZ {H:OH} {a:Nat} {l m:OObj} (h:H a=[c,l,m]) (q: ∀e∈c.elems,∀x∈e,isPure x=true\/(∃f len,x= .sl a 1 f len)\/ ∃f len,x= .sl a 2 f len) (n:dB l) (p:dB m):s9 H a:=fun r o b e g x j=>by
 rw[h]at b
 match r with
 |0=>
  grind
 |1=>
  injection b with b
  subst b;exact .inl (n e g x j)
 |2=>
  injection b with b
  subst b;exact .inl (p e g x j)
 |r+3=>simp at b
def Wf (n:Nat) (f:FF):Prop:= ∀k i j,k<n->k<=i->i<n->k<=j->j<n->I64 (bk f k i j)
theorem Mo (n:Nat) (f:FF) (k:Nat):List.drop 1 (List.take (n-k) (aN (n-k) (elF f k 0)))=mz n f k:=by
 rw[X3 (by rw[aH];omega)];show _=aN _ _;apply X7;intro b;rw[Yr];by_cases c:b<n-k-1
 ·rw[az _ (by omega),az _ c,Z3 1 b];rfl
 grind [aH]
abbrev WK (n:Nat) (f:FF):TV:= .agg [.p (.sl (ls fI (aN (n+1) (dk f)))),.p (.sl (ls (fR fI) (eF n f n)))]
theorem G9 {s:FuncId} (w:s=138\/s=145) (o:U1 n g) (I:Wf n g):CallC prog s [dq (mat n n g)] ⟨[],WK n g⟩:=by
 have c:=o.n1;have A:=o.n16;have u:=sJ n n g c A c A o.i;have r:=Bf n g c A fun i j E L=>(o.i i j E L).sz (by omega)
 rw[wO o.nz]at r;have z:=qA n g n;have B: ∀k,k<n->(sT n g n)[k]?=some (IU n g k):=fun k M=>by simp[sT,M]
 have N:[[AV.p (.raw (.int .i64 1))]]=lc fI (aN 1 (dk g)):=by
  rfl
 rcases w with rfl|rfl
 all_goals
  first
  |(refine eD func138 rfl (by kernel_rfl) ?_;rw[ntmps138];let D:TypeId:=180)
  |(refine eD func145 rfl (by kernel_rfl) ?_;rw[ntmps145];let D:TypeId:=188)
  (first|refine au fun _ K=>?_|refine ai (au fun _ K=>?_)|refine ai (ai (au fun _ K=>?_)));simp(disch:=omega) only[kd,dq,ae,aa];apply K
  (first|refine bj [⟨1,_,_,_,u⟩] [] fun _ K=>?_|refine ai (bj [⟨1,_,_,_,u⟩] [] fun _ K=>?_)|refine ai (ai (bj [⟨1,_,_,_,u⟩] [] fun _ K=>?_)));simp only[kd,dq,TM,aa];apply K
  (first|refine bj [⟨1,_,_,_,r⟩] [] fun _ K=>?_|refine ai (bj [⟨1,_,_,_,r⟩] [] fun _ K=>?_)|refine ai (ai (bj [⟨1,_,_,_,r⟩] [] fun _ K=>?_)));simp only[kd,dZ,aa];apply K
  (first|refine ij 3 [] [22] (by simp[wk]) (by decide) fun _ K=>?_|refine ai (ij 3 [] [22] (by simp[wk]) (by decide) fun _ K=>?_));simp(disch:=omega) only[kd,aa,Nat.reduceMul,Nat.reduceLeDiff,ab];apply K
  refine⟨_,(kN 7 22 900 rfl rfl rfl (by simp[dB,isPure]) (by simp[dB,isPure]) (by omega) (by omega) (by omega)),by simp[wk],?_⟩;simp only[X9,Yu,P2,aaO,mb,fi,oE];intro _ K;simp(disch:=omega) only[kd,ab,aa];apply K;refine bs.weak (kO 900 0 0 1 35 1 (by omega) rfl rfl rfl) ?_
  (first|refine au fun _ K=>?_|refine ai (au fun _ K=>?_)|refine ai (ai (au fun _ K=>?_)));simp(disch:=omega) only[kd,aa,ab,z];apply K
  refine aG (G:=jW n) (fun q=>⟨(jk::jk::.one (.ptr 2 0 0 0)::j4 (.one (.ptr 900 0 0 0)::j16 (.one (.p (.sl (ls fM (sT n g n))))::rN n::rN q.i::j16 (j4 (j4 (j4 (jk::[]))))))),Hm [(2,[⟨D,2,[[.p (.raw (.slice none 0 0)),.p (.raw (.slice none 0 0))]]⟩]),(900,[⟨D,2,[[.sl 900 1 0 (q.i+1),.sl 900 2 0 q.i]]⟩,⟨2,1,lc fI (aN (q.i+1) (dk g))⟩,⟨35,1,lc (fR fI) (eF n g q.i)⟩])]⟩) (fun q=>n-q.i) ⟨0,by omega⟩ ?_ ?_
  ·refine aj ⟨rfl,?_,trivial⟩ ?_
   ·rfl
   simp[wk]
  rintro⟨i,E⟩;simp only;by_cases F:i<n
  ·have O:=B i F;have v:=JD (n-i) (n-i) (elF g i) (by omega) (by omega) (by omega) (by omega) (fun a b R J=>I i (i+a) (i+b) F (by omega) (by omega) (by omega) (by omega));have H:=bu (n-i) (elF g i) (show 0<n-i by omega);have P:=az (elF g i 0) (show 0<n-i by omega);have U:=aS (n-i) (n-i) (elF g i);have Q:=aH (n-i) (elF g i 0);have m:=aH (i+1) (dk g);have l:=kX n g i;have C:=Mo n g i;have t:1<=n-i:=by omega
   (first|refine au fun _ K=>?_|refine ai (au fun _ K=>?_)|refine ai (ai (au fun _ K=>?_)));simp(disch:=omega) only[kd];apply K
   first|refine bA rfl ?_|refine ai (aW rfl (fun _=>ak ?_) (fun h=>by simp at h<;>omega))
   refine ai (am ?_)
   (first|refine au fun _ K=>?_|refine ai (au fun _ K=>?_)|refine ai (ai (au fun _ K=>?_)));simp(disch:=omega) only[kd,aa,O,fM];apply K
   (first|refine bj [⟨1,_,_,_,v⟩] [] fun _ K=>?_|refine ai (bj [⟨1,_,_,_,v⟩] [] fun _ K=>?_)|refine ai (ai (bj [⟨1,_,_,_,v⟩] [] fun _ K=>?_)));simp only[kd,dZ,aa];apply K
   (first|refine lF ch (by kernel_rfl) fun _ K=>?_|refine ai (lF ch (by kernel_rfl) fun _ K=>?_)|refine ai (ai (lF ch (by kernel_rfl) fun _ K=>?_)));simp(disch:=omega) only[kd,aa,ab,Int.reduceToNat,H,fR,P,kV,Nat.reduceMul,Nat.reduceLeDiff,m,Nat.reduceBEq,vu];apply K
   refine uy (aE H (aE Q (aE t (aE (rC LX) (aE C (aE l @rz)))))) (k:=bK (k:=?_));refine⟨⟨i+1,by omega⟩,by grind,aj ⟨rfl,?_,trivial⟩ ?_⟩
   ·rw[jA (i+1),<- x9 n g i];rfl
   simp[wk]
  have y:i=n:=by omega
  subst y;have m:=aH (i+1) (dk g);have l:=kX i g i
  (first|refine au fun _ K=>?_|refine ai (au fun _ K=>?_)|refine ai (ai (au fun _ K=>?_)));simp(disch:=omega) only[kd];apply K
  first|refine bG rfl ?_|refine ai (aW rfl (fun h=>by simp at h<;>omega) (fun _=>be ?_))
  show bs _ _ _ _
  (first|refine ij 1 [] [] (by simp[wk]) (by decide) fun _ K=>?_|refine ai (ij 1 [] [] (by simp[wk]) (by decide) fun _ K=>?_));simp only[kd,ab,aa];apply K
  refine⟨_,bF 900 (LZ rfl (fun e S x T=>?_) (bi _ _ _) (bi _ _ _)),by simp[wk],?_⟩
  ·grind
  simp only[X9,Yu,fb,dD];intro _ K;simp(disch:=omega) only[kd,ab,aa];apply K
  (refine aZ ⟨.inr rfl,b9 rfl ?_ rfl⟩;simp(disch:=omega) only[kd,results138,ab,aa,results145])
  grind
def fV (p:Int×Int):List PV:=[.raw (.int .i64 p.1),.raw (.int .i64 p.2)]
abbrev Va (l:List (Int×Int)):TV:= .one (.p (.sl (ls fV l)))
theorem PX (f:FF) (B:Int) (o:0<f 0 0) (s:f 0 0<=4611686018427387904) (c:0<=B) (x:B<=4611686018427387904):CallC prog 94 [dq (mat 1 1 f),.raw (.int .i64 B)] ⟨[],Va [(-isqF (B/f 0 0),isqF (B/f 0 0))]⟩:=by
 have b:0<=B/f 0 0:=Zn c (by omega);have t:B/f 0 0<=B:=aal _ c;have w:=mT b (by omega);have cR:=wl (.inr (.inr rfl)) (B/f 0 0) b (by omega);have h:Int.tdiv B (f 0 0)=B/f 0 0:=Zr c;have g:(f 0 0=0)=False:=eq_false (by omega);have e:=aS 1 1 f;have u:=bu (n:=1) 1 f (i:=0) (by omega);have l:=az (m:=1) (f 0) (j:=0) (by omega);have v:=aH 1 (f 0);show CallC _ _ _ ⟨[],.one (.p (.sl [[.raw (.int .i64 (-isqF (B/f 0 0))),.raw (.int .i64 (isqF (B/f 0 0)))]]))⟩;rw[show -isqF (B/f 0 0)=0-isqF (B/f 0 0) by omega];generalize B/f 0 0=q at*
 generalize isqF q=r at*
 generalize f 0 0=d at*
 refine aB func94 rfl ntmps94 (aC (k:=f5 e (k:=ai (ar (k:=aD rfl (ce [⟨7,_,_,_,cR⟩] (aE u (aE l h)) (k:=ar (k:=aF @results94))))))))
theorem OX (M:List (List Int)) (B k e:Int) (f:e≠0) (c:CallC prog 87 [dq M,.raw (.int .i64 B),.raw (.int .i64 k)] ⟨[],OW e⟩):CallC prog 44 [dq M,.raw (.int .i64 B),.raw (.int .i64 k)] ⟨[],OW e⟩:=by
 have b:(e=0)=False:=eq_false f;refine aB func44 rfl ntmps44 (aC (k:=ai (bQ [⟨3,_,_,_,c⟩] (k:=f5 b (k:=aD rfl (bH (k:=aF @results44)))))))
theorem OY (M:List (List Int)) (B k:Int) (L:List Int) (l:List (Int×Int)) (c:CallC prog 87 [dq M,.raw (.int .i64 B),.raw (.int .i64 k)] ⟨[],.tup [(false,[.p (.sl (ls fI L))]),(false,[.p (.raw (.int .i64 0))])]⟩) (b:CallC prog 94 [dq M,.raw (.int .i64 B)] ⟨[],Va l⟩):
  CallC prog 44 [dq M,.raw (.int .i64 B),.raw (.int .i64 k)] ⟨[],.tup [(false,[.p (.sl (ls fV l))]),(false,[.p (.raw (.int .i64 0))])]⟩:=by
 refine aB func44 rfl ntmps44 (aC (k:=ai (bQ [⟨3,_,_,_,c⟩] (k:=ar (k:=ao rfl (ak (bQ [⟨2,_,_,_,b⟩] (k:=aF @results44))))))))
section
variable {n:Nat} {f:FF}
theorem o6 (b:RedR f n) (l:n<=8) (m: ∀i j,i<n->j<n-> -262144<=f i j/\f i j<=262144):Wf n f:=fun k i j o g c h e=>by
 have:=j6 l b.1 (fun i c j e=>m i j c e) o (fun t p=>⟨b.2.1 t (by omega),kS (by omega) l b t (by omega),(b.2.2.2 t (by omega)).1⟩) g c h e;constructor<;>omega
theorem Fh (c:RedR f n) (o:1<=n) (l:n<=8) (m: ∀i j,i<n->j<n-> -262144<=f i j/\f i j<=262144):U1 n f:=by
 have h:=o6 c l m;have p: ∀k,k<=n->0<dk f k/\dk f k<65536:=fun k b=>by
  cases k with
  |zero=>rw[co];omega
  |succ k=>exact⟨c.2.1 k (by omega),kS (by omega) l c k (by omega)⟩
 refine⟨o,by omega,fun t r=>?_,fun i j q e=>?_,fun k b=>?_,fun k j b e=>?_⟩
 ·grind
 ·have:=m i j q e;constructor<;>omega
 ·have:=p k b;constructor<;>omega
 by_cases g:j<k
 ·rw[zr c.pd (by omega) b g];constructor<;>omega
 exact h k k j b (XY k) b (by omega) e
theorem Uh (g:RedR f n) (e:n<=8) (b:0<=x) (c:x<=1073741824):mD n f x:=⟨g,e,b,c⟩
theorem Ug (b:RedR f n) (l:1<=n) (e:n<=8) (c:0<=x) (h:x<=4611686018427387904) (j:n=1\/x<1073741824):WA n f x:=by
 by_cases g:n=1
 ·subst g;have m:dk f 1<65536:=kS (by omega) e b 0 (by omega);exact .inl ⟨rfl,b.2.1 0 (by omega),by omega,c,h⟩
 have:=j.resolve_left g;exact .inr ⟨by omega,b,e,c,by omega⟩
end
theorem CV {M:List (List Int)} (b:isReducedM M=true):M=mat M.length M.length (ent M)/\1<=M.length/\M.length<=8/\RedR (ent M) M.length/\ ∀i j,i<M.length->j<M.length-> -262144<=ent M i j/\ent M i j<=262144:=by
 obtain⟨e,f,c,g⟩:=(jK M).1 b;obtain⟨_,_,_,h⟩:=ir b;grind [Qe,List.mem_iff_getElem?,ky]
noncomputable def Vc (M:List (List Int)) (B k:Int):TV:=
 if isReducedM M=true then
  if B<0\/4611686018427387904<B\/k<0\/1000000<k then OW 1
  else if 1<M.length/\1073741824<=B then OW 9
  else UH (H6 (AM M.length) (ent M) M.length B ⟨k,ae M.length 0,false⟩)
 else OW 6
theorem CM (M:List (List Int)) (B k:Int):CallC prog 87 [dq M,.raw (.int .i64 B),.raw (.int .i64 k)] ⟨[],Vc M B k⟩:=by
 unfold Vc;by_cases b:isReducedM M=true
 ·rw[if_pos b];by_cases f:B<0\/4611686018427387904<B\/k<0\/1000000<k
  ·rw[if_pos f];exact Pd M B k b f
  rw[if_neg f];obtain⟨e,g,h,m,j⟩:=CV b;by_cases c:1<M.length/\1073741824<=B
  ·rw[if_pos c];exact Pe M B k b (by omega) (by omega) (by omega) (by omega) c.1 (by omega) c.2
  rw[if_neg c];have l:M.length=1\/B<1073741824:=by omega
  grind [Pf,Fh,Ug]
 rw[if_neg b];exact Pc M B k (by grind)
theorem Ra (u:mD n g x) (k:Nat) (y:List Int) (l:List (List PV)) (z:y.length+(k+1)=n) (w:oy y) (L:l.length=n) (K: ∀i,i<y.length->l[k+1+i]?=some [.raw (.int .i64 (y.getD i 0))]):
  CallC prog 147 [.one (.p (.ptr [.sl (ls fI (aN (n+1) (dk g))),.sl (ls (fR fI) (eF n g n))])),.raw (.int .i64 (k:Int)),.one (.p (.sl l))] ⟨[],.raw (.int .i64 (tc g n k (aR n y)))⟩:=by
 have J:=u.n8;have E:=vr n g (show k<n by omega);have F:=kX n g n;have s:(mz n g k).length=y.length:=(aH _ _).trans (by omega);have H: ∀i,i<y.length->(mz n g k)[i]?=some (bk g k k (k+(i+1))):=fun i P=>az _ (by omega)
 have c:=fun m (j:m<=y.length)=>u.shP_c z w j
 have b:=n5 g z;have e:sQ g k y 0=0:=rfl;have h: ∀i,sQ g k y i+bk g k k (k+(i+1))*y.getD i 0=sQ g k y (i+1):=fun _=>rfl
 have A:IntKind.i64.wrap ((k:Int)+1)=((k+1:Nat):Int):=aP (by omega) (by omega);rw[<- b];clear u w b;generalize aN (n+1) (dk g)=D at*
 generalize eF n g n=M at*
 generalize mz n g k=r at*
 generalize sQ g k y=O at*
 refine aB func147 rfl ntmps147 (aC (k:=bH (k:=ai (aK (aE E s) (k:=?_)))));refine aG (G:=jW y.length) (fun q=>⟨(jk::rN k::.one (.p (.sl l))::j4 (.raw (.int .i64 (O q.i))::j4 (j4 (rV r::rN y.length::rN q.i::j16 (jk::[]))))),Hm []⟩) (fun q=>y.length-q.i) ⟨0,by omega⟩ ?_ ?_
 ·refine aj trivial ?_;simp[wk,e]
 rintro⟨i,I⟩;simp only;by_cases j:i<y.length
 ·have o:=H i j;have Q:=c i (by omega);have R:=c (i+1) (by omega);have N:=h i;have C:IntKind.i64.wrap (((k+1:Nat):Int)+(i:Int))=((k+1+i:Nat):Int):=by grind [aP]
  have v:=K i j;generalize bk g k k (k+(i+1))=q at*
  generalize y.getD i 0=S at*
  refine ar (k:=bA rfl (ai (am (aK o (k:=dU (aE A (aE C (aE v N))) (k:=bK (k:=?_)))))));refine⟨⟨i+1,by omega⟩,by grind,aj trivial ?_⟩;simp[wk]
 have t:i=y.length:=by omega
 subst t;refine ar (k:=bG rfl (bH (k:=aF @results147)))
theorem QC (L:List Int) (z:Int) (m:1<=L.length) (b:L.length<=1000) (g:L[L.length-1]?=some z) (h: -1000000000<=z) (j:z<=1000000000):CallC prog 88 [rV L] ⟨[],.raw (.int .i64 (Int.tdiv (z-1) 2))⟩:=by
 have e:IntKind.i64.wrap ((L.length:Int)-1)=((L.length-1:Nat):Int):=by grind [aP]
 have l:(Int.tdiv (z-1) 2).natAbs<=(z-1).natAbs:=by
  grind
 have f:IntKind.i64.wrap (Int.tdiv (z-1) 2)=Int.tdiv (z-1) 2:=aP (by omega) (by omega);have c:L.length-1<L.length:=by omega
 refine aB func88 rfl ntmps88 (aC (k:=aK (aE e (aE g f)) (k:=aF @results88)))
def Jt (f:FF) (x:List Int) (i j:Nat):Int:=dP (fun b=>f i b*x.getD i 0*x.getD b 0) j
def KB (f:FF) (x:List Int) (n i:Nat):Int:=dP (fun a=>Jt f x a n) i
theorem Hc {x:List Int} {T i b:Nat} (h: ∀i j,i<n->j<n->(g i j).natAbs<=m) (l: ∀i,(x.getD i 0).natAbs<=T) (o:m*T*T<=72057594037927936) (p:i<n) (q:b<n):(g i b*x.getD i 0).natAbs<=72057594037927936/\(g i b*x.getD i 0*x.getD b 0).natAbs<=72057594037927936:=by
 have c:(g i b*x.getD i 0).natAbs<=m*T:=by simp_all[Y1,Yn]
 have e:(g i b*x.getD i 0*x.getD b 0).natAbs<=m*T*T:=by rw[Y1];simp_all[Yn]
 grind [Nat.le_trans,Nat.le_mul_of_pos_right]
theorem Ql (n:Nat) (f:FF) (x:List Int) (E T:Nat) (hn:n<=8) (hx:x.length=n) (o: ∀i j,i<n->j<n->(f i j).natAbs<=E) (y: ∀i,(x.getD i 0).natAbs<=T) (z:E*T*T<=72057594037927936):
  CallC prog 40 [dq (mat n n f),rV x] ⟨[],.raw (.int .i64 (KB f x n n))⟩:=by
 have H:=aS n n f;have K: ∀i,i<n-> ∀j,j<=n->(Jt f x i j).natAbs<=576460752303423488:=fun i c j C=>by
  have:=tP (F:=fun b=>f i b*x.getD i 0*x.getD b 0) (B:=72057594037927936) j fun b M=>(Hc o y z c (by omega)).2
  unfold Jt;omega
 have L: ∀i,i<=n->(KB f x n i).natAbs<=4611686018427387904:=fun i c=>by
  have:=tP (F:=fun a=>Jt f x a n) (B:=576460752303423488) i fun a ha=>K a (by omega) n (XY n)
  unfold KB;omega
 have l: ∀i,i<n->x[i]?=some (x.getD i 0):=fun i c=>by grind
 have r: ∀i j,Jt f x i j+f i j*x.getD i 0*x.getD j 0=Jt f x i (j+1):=fun _ _=>rfl
 have v: ∀i,KB f x n i+Jt f x i n=KB f x n (i+1):=fun _=>rfl
 have q: ∀i,Jt f x i 0=0:=fun _=>rfl
 have t:KB f x n 0=0:=rfl;have h: ∀i,i<n->(mat n n f)[i]?=some (aN n (f i)):=fun i c=>bu n f c
 have P:=fun i b (c:i<n) (C:b<n)=>Hc (x:=x) o y z c C
 clear o y z;refine aB func40 rfl ntmps40 (aC (k:=bH (k:=ai (f5 H (k:=?_)))));refine aG (G:=jW n) (fun g=>⟨(jk::rV x::jk::jk::jk::.raw (.int .i64 (KB f x n g.i))::j4 (dq (mat n n f)::rN n::rN g.i::j16 (j4 (j4 (jk::jk::jk::[]))))),Hm []⟩) (fun g=>n-g.i) ⟨0,by omega⟩ ?_ ?_
 ·refine aj trivial ?_;simp[wk,t]
 rintro⟨i,c⟩;simp only;by_cases m:i<n
 ·have O:=h i m;have I:=aH n (f i);refine ar (k:=bA rfl (ai (am (aK O (k:=f5 I (k:=?_))))));refine aG (G:=jW n) (fun g=>⟨(jk::rV x::jk::jk::jk::.raw (.int .i64 (KB f x n i+Jt f x i g.i))::rN i::jk::jk::jk::dq (mat n n f)::rN n::rN i::j4 (rV (aN n (f i))::rN n::rN g.i::j16 (j4 ([])))),Hm []⟩) (fun g=>n-g.i) ⟨0,by omega⟩ ?_ ?_
  ·refine aj trivial ?_;simp[wk,q]
  rintro⟨j,C⟩;simp only;by_cases e:j<n
  ·have N:=az (f i) e;have U:=l i m;have V:=l j e;have t1:=P i j m e;have s1:=r i j;have Y:=K i m (j+1) (by omega);have Z:=L i (by omega);have S:KB f x n i+Jt f x i j+f i j*x.getD i 0*x.getD j 0=KB f x n i+Jt f x i (j+1):=by omega
   generalize x.getD i 0=W at*
   generalize x.getD j 0=X at*
   generalize f i j=a at*
   generalize J:Jt f x i (j+1)=s' at*
   generalize Jt f x i j=s at*
   generalize KB f x n i=p at*
   generalize Q:a*W=u at*
   generalize R:u*X=w at*
   refine ar (k:=bA rfl (ai (am (aK N (k:=uy (aE U (aE Q (aE V (aE R S)))) (k:=bK (k:=?_)))))));refine⟨⟨j+1,by omega⟩,by grind,aj trivial ?_⟩;simp[wk,J]
  have D:j=n:=by omega
  subst D;refine ar (k:=bG rfl (bK (k:=?_)));refine⟨⟨i+1,by omega⟩,by grind,aj trivial ?_⟩;simp[wk,v]
 have A:i=n:=by omega
 subst A;refine ar (k:=bG rfl (bH (k:=aF @results40)))
theorem TC (n:Nat) (f:FF) (r:1<=n) (x:n<=16):CallC prog 39 [dq (mat n n f)] ⟨[],rV (aN n fun i=>f i i)⟩:=by
 have b:=aS n n f;have u:ae n [AV.p (.raw (.int .i64 0))]=lc fI (aN n fun j=>if j<0 then f j j else 0):=by
  have v:(aN n fun j=>if j<0 then f j j else 0)=ae n 0:=X7 fun i=>by
   grind [aN]
  grind [U7]
 refine aB func39 rfl ntmps39 (aC (k:=aK b (k:=ai (f5 b (k:=?_)))));refine aG (G:=jW n) (fun g=>⟨(jk::jk::jk::.one (.sl 8 0 0 n)::j4 (jk::dq (mat n n f)::rN n::rN g.i::j4 (j4 (j4 (jk::[]))))),Hm [(8,[⟨2,1,lc fI (aN n fun j=>if j<g.i then f j j else 0)⟩])]⟩) (fun g=>n-g.i) ⟨0,by omega⟩ ?_ ?_
 ·refine aj ⟨?_,trivial⟩ ?_
  ·rw[<- u];rfl
  simp[wk]
 rintro⟨i,w⟩;simp only;by_cases m:i<n
 ·have s:=bu n f m;have q:=az (f i) m;have t:=aH n (f i);have h:=aH n (fun j=>if j<i then f j j else 0);have e:=az (fun j=>if j<i then f j j else 0) m;have c:(lc fI (aN n fun j=>if j<i then f j j else 0)).set i [AV.p (.raw (.int .i64 (f i i)))]=lc fI (aN n fun j=>if j<i+1 then f j j else 0):=by
   rw[show[AV.p (.raw (.int .i64 (f i i)))]=(fI (f i i)).map AV.p from rfl,vw,nj];grind
  refine ar (k:=bA rfl (ai (am (aK s (k:=dU (aE q (aE e c)) (k:=bK (k:=?_)))))));refine⟨⟨i+1,by omega⟩,by grind,aj ⟨rfl,trivial⟩ ?_⟩;simp[wk]
 have l:i=n:=by omega
 subst l;have h:=aH i (fun j=>if j<i then f j j else 0);refine ar (k:=bG rfl (bH (k:=?_)));refine aZ ⟨.inr rfl,jd 8 (bS rfl) ?_ rfl⟩;have o:List.take i (aN i fun j=>if j<i then f j j else 0)=aN i fun j=>f j j:=by
  grind [ez]
 simp(disch:=omega) only[kd,results39,o,rV]
def EW (L:List Int):Nat->Int
 |0=>L.getD 0 0
 |i+1=>if L.getD (i+1) 0<EW L i then L.getD (i+1) 0 else EW L i
structure Xi (n:Nat) where
 i:Nat
 h:i+1<=n
theorem VP (L:List Int) (m:1<=L.length) (p:L.length<=1000):CallC prog 38 [rV L] ⟨[],.raw (.int .i64 (EW L (L.length-1)))⟩:=by
 have j: ∀i,i<L.length->L[i]?=some (L.getD i 0):=fun i n=>by grind
 have l:=j 0 (by omega);have c:EW L 0=L.getD 0 0:=rfl;have e: ∀i,(if L.getD (i+1) 0<EW L i then L.getD (i+1) 0 else EW L i)=EW L (i+1):=fun _=>rfl
 refine aB func38 rfl ntmps38 (aC (k:=ai (ar (k:=ao rfl (ak (aK l (k:=ai (bH (k:=?_)))))))));refine aG (G:=Xi L.length) (fun g=>⟨(rV L::jk::jk::.raw (.int .i64 (EW L g.i))::.raw (.int .i64 ((g.i+1:Nat):Int))::j16 (j4 ([]))),Hm []⟩) (fun g=>L.length-g.i) ⟨0,m⟩ ?_ ?_
 ·refine aj trivial ?_;simp[wk,c]
 rintro⟨i,n⟩;simp only;by_cases h:i+1<L.length
 ·have f:=j (i+1) h;have o:=e i;refine ai (ar (k:=aD rfl (ak (ai (am (dU (aE f o) (k:=bK (k:=?_))))))));refine⟨⟨i+1,h⟩,by grind,aj trivial ?_⟩;simp[wk]
 have b:i=L.length-1:=by omega
 subst b;refine ai (ar (k:=ao rfl (be (bH (k:=aF @results38)))))
theorem MB (x:Int) (l:List Int):ls fI (x::l)=fI x::ls fI l:=rfl
theorem Uj {P:Program} {c:Func} {d:Nat} {g:TypeId} (j:s.H d=[⟨g,1,lc fI f⟩]) (b:o7 P s c.results.toList=some (.one (.sl d 0 0 f.length))) (h:d<=4999):
  ∃e,bv s e/\mB P c ⟨[⟨g,1,lc fI f⟩],.one (.sl 0 0 0 f.length)⟩ e:=
 ⟨s,bv.refl s,_,d,b,wE (by rfl) h,by grind [renO,jL],rfl⟩
theorem Lx (l:List Int) (e:1<=l.length) (f:l.length<=1000):CallC prog 142 [rV l] ⟨[⟨2,1,lc fI l⟩],.one (.sl 0 0 0 l.length)⟩:=by
 obtain⟨x,c,rfl⟩: ∃x c,l=x::c:=by
  cases l with
  |nil=>simp at e
  |cons x c=>simp
 refine aB func142 rfl ntmps142 (aC (k:=ai (f5 @MB (k:=?_))));have b:([PV.raw (.int .i64 x)]::ls fI c)=ls fI (x::c):=rfl;simp only[b];clear b;generalize x::c=L at*
 refine ao rfl (ak ?_);show bs _ _ _ _;refine bj [] [5] fun _ K=>?_;simp(disch:=omega) only[kd,aa,Nat.reduceMul,Yt,Nat.reduceLeDiff,Ms LX];apply K
 refine aZ ⟨.inr rfl,Uj (d:=5) rfl ?_ (by decide)⟩;simp(disch:=omega) only[kd,results142]
theorem gC {a b:Int} (h:a<=b):rng a b=a::rng (a+1) b:=by
 unfold rng;rw[show(b-a+1).toNat=(b-(a+1)+1).toNat+1 by omega,List.range_succ_eq_map,X9,Y0]
 congr 1
 ·simp
 grind [List.map_congr_left]
theorem iX {a:Int} (h: ¬a<=x):rng a x=[]:=by
 grind [rng]
theorem Bs {P:Program} {l:Type} {L:gM l} {h:List Nat} {g:l} {z:Code} {Q:Exit->AS->l->Prop} (S:AS) (o:dT P L h b (qI (fun j f=>bv j S/\f=g) Q) s g) (p:dT P L h z Q S g):dT P L h b (qI (dT P L h z Q) Q) s g:=fun t Y u O X a w r=>
 wp_mono (o t Y u O X a w r) fun e v x ⟨j,f,m,n⟩=>by
  cases e with
  |normal=>
   obtain⟨q,rfl⟩:=m;exact⟨j,f,p.weak q,n⟩
  |_=>exact⟨j,f,m,n⟩
noncomputable def wX (f:FF) (n:Nat) (B:Int) (ex:Bool):Nat->List Int->Bool->List (List Int)
 |0,y,z=>(rng (if z=true then 0 else dR f n B 0 (aR n y)) (eQ f n B 0 (aR n y))).flatMap fun c=>if(z&&decide (c=0))=true\/(ex&&!decide (o8 f n B 0 (aR n (c::y))=0))=true then[]else[c::y]
 |k+1,y,z=>(rng (if z=true then 0 else dR f n B (k+1) (aR n y)) (eQ f n B (k+1) (aR n y))).flatMap fun c=>wX f n B ex k (c::y) (z&&decide (c=0))
abbrev BP (a n m:Nat) (y D:List Int) (M acc:List (List Int)) (ex:Bool):List OObj:=[⟨182,1,[[.fn 139 a [(1,0,0),(2,0,0),(0,0,0),(6,0,0),(4,0,0)]]]⟩,⟨180,2,[[.p (.sl (ls fI D)),.p (.sl (ls (fR fI) M))]]⟩,⟨35,1,[[.sl a 3 0 n]]⟩,⟨2,1,fK m++lc fI y⟩,⟨26,1,[[.sl a 5 0 acc.length]]⟩,⟨35,1,lc (fR fI) acc⟩,⟨4,1,[[.p (.raw (.bool ex))]]⟩]
theorem tz (a d n m:Nat) (y D:List Int) (M acc:List (List Int)) (ex:Bool):(BP a n m y D M acc ex).map (renO d)=BP d n m y D M acc ex:=by
 simp only[BP,X9,Yu,renO,b6,jL,YN,gU,aa3,YD,if_false]
theorem BQ (a n m:Nat) (y D:List Int) (M acc:List (List Int)) (ex:Bool): ∀o∈BP a n m y D M acc ex,selfO a o:=fun o f e b x c=>by
 simp only[Yo,Y3,or_false]at f;rcases f with rfl|rfl|rfl|rfl|rfl|rfl|rfl
 ·simp only[XT]at b;subst b;simp only[XT]at c;subst c;exact⟨rfl,by simp⟩
 ·simp only[XT]at b;subst b;simp only[Yo,Y3,or_false]at c;rcases c with rfl|rfl<;>trivial
 ·simp only[XT]at b;subst b;simp only[XT]at c;subst c;rfl
 ·simp only[YK]at b;rcases b with b|b
  ·obtain⟨_,rfl⟩:=Zz.1 b;simp only[XT]at c;subst c;trivial
  exact ck (bi 2 1 _ e b x c)
 ·simp only[XT]at b;subst b;simp only[XT]at c;subst c;rfl
 ·exact ck (bi 35 1 _ e b x c)
 simp only[XT]at b;subst b;simp only[XT]at c;subst c;trivial
abbrev SD:List (Nat×Nat):=[(1,3),(2,4),(0,5),(6,6),(4,7)]
theorem Tz (a n m f:Nat) (y g D:List Int) (M acc b:List (List Int)) (ex:Bool): ∀r∈SD.map Prod.fst,∀o,(BP a n m y D M acc ex)[r]?=some o-> ∃c,(BP a n f g D M b ex)[r]?=some c/\c.es=o.es/\o.elems.length<=c.elems.length:=fun r e o h=>by
 simp only[SD,X9,Yu,Yo,Y3,or_false]at e;rcases e with rfl|rfl|rfl|rfl|rfl<;>(injection h with h;subst h;simp)
abbrev XD (k:Nat) (b:Int) (z:Bool):List TV:=[.raw (.int .i64 (k:Int)),.raw (.int .i64 b),.raw (.bool z),.one (.ptr 0 1 0 0),.one (.ptr 0 2 0 0),.one (.ptr 0 0 0 0),.one (.ptr 0 6 0 0),.one (.ptr 0 4 0 0)]
abbrev Vt (n:Nat) (f:FF) (B:Int) (ex:Bool) (k:Nat) (y:List Int) (z:Bool) (acc:List (List Int)):Prop:=
 kL prog Wk (SD.map Prod.fst) 139 (XD k (o8 f n B (k+1) (aR n y)) z) (BP 0 n (k+1) y (aN (n+1) (dk f)) (eF n f n) acc ex) (BP 0 n (k+1) y (aN (n+1) (dk f)) (eF n f n) (acc++wX f n B ex k y z) ex) () () (.tup [])
end Go.Proofs.YtalmoejhjceflaaGreat
