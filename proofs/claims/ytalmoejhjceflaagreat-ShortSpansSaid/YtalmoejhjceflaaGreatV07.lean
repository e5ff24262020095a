/-
  Part 8 of a proof (walks and plain facts).
-/
import Derived.Test.YtalmoejhjceflaaGreatV06
set_option linter.all false
set_option maxRecDepth 100000
set_option maxHeartbeats 64000000
namespace Go.Proofs.YtalmoejhjceflaaGreat
open Go.RowKit
variable {s b:AS} {c:Exit->AS->Prop} {e:Nat->Prop} {n:Nat} {f:TV} {g:OObj} {w:World} {h:Nat->Bool} {j:Oper} {l:List OObj} {m:Value} {o:Rho} {p:Code} {q:AV}
section
section
variable {P:Program} {items:List (dD P)} {ow:List Nat} {ops:Array Oper} {s s1 s':AS} {H H':OH}
theorem LR (h:noRefTV f=true):ji H f:=by
 have e: ∀x,iu x=true->il H x:=fun x c=>by cases x<;>first|trivial|cases c
 cases f with
 |one x=>exact e x h
 |agg g=>simp only[noRefTV,aeP]at h;exact fun x c=>e x (h x c)
 |fn b g=>simp only[noRefTV,aeP]at h;exact fun x c=>e x (h x c)
 |tup l=>simp only[noRefTV,aeP]at h;exact fun f j x c=>e x (h f j x c)
theorem JC {d:Nat} (h:selfTV d f) (g:H d≠[]):ji H f:=by
 have e: ∀x,bJ d x->il H x:=fun x c=>by
  cases x with
  |sl a _ _ _=>have c:a=d:=c;subst c;exact g
  |ptr a _ _ _=>have c:a=d:=c;subst c;exact g
  |fn _ a _=>have j:a=d:=c.1;subst j;exact⟨g,c.2⟩
  |p x=>trivial
  |junk=>trivial
 cases f with
 |one x=>exact e x h
 |agg l=>exact fun x c=>e x (h x c)
 |fn b l=>exact fun x c=>e x (h x c)
 |tup n=>exact fun f m x c=>e x (h f m x c)
theorem BP (d:Nat) (t:TV):selfTV d (renTV d t):=by
 cases t with
 |one x=>exact gk d x
 |agg c=>intro x b;grind [gk]
 |fn f c=>intro x b;grind [gk]
 |tup g=>
  intro t e x b;grind [gk]
theorem DT {d:Nat} (h:noRefTV f=true):noRefTV (renTV d f)=true:=by
 have c: ∀x,iu x=true->iu (dA d x)=true:=fun x g=>by cases x<;>first|rfl|cases g
 cases f with
 |one x=>exact c x h
 |agg e=>grind [noRefTV,renTV]
 |fn b e=>grind [noRefTV,renTV]
 |tup j=>
  grind [noRefTV,renTV]
theorem gh {a:Nat} (h: ∀e∈g.elems,∀x∈e,isPure x=true):selfO a g:=fun e b x c=>dj (h e b x c)
theorem DR {b:List (List AV)} (h:newsOf H f=some b): ∀e∈b,∀x∈e,isPure x=true:=by
 unfold newsOf at h;split at h
 ·injection h with h
  subst h;intro e c x g;simp only[aeL]at c;obtain⟨j,_,rfl⟩:=c;simp only[aeL]at g;obtain⟨l,_,rfl⟩:=g;rfl
 ·grind
 ·grind
 cases h
theorem IV {ev:Operand->Option TV} {n:Nat}: ∀(parts:List (Nat×Operand)) (i:Nat) (l:List (List AV)),tX ev n i parts=some l-> ∀e∈l,∀x∈e,isPure x=true
 |[],i,l,h=>by grind [tX]
 |(k,x)::b,i,l,h=>by
  simp only[tX]at h;split at h
  ·rename_i o m g f;split at h
   ·rename_i p;injection h with h
    subst h;intro e c y j;rcases afn.1 c with rfl|c
    ·grind
    exact IV b (i+1) m f e c y j
   cases h
  cases h
theorem AL {i d:Nat} {ev:Operand->Option TV} {op:Op} {F:List OObj} (h:dM P items ow i d ev H op=some (f,F)):selfTV d f/\(F=[]->noRefTV f=true)/\ ∀o∈F,selfO d o:=by
 cases op<;>simp only[dM]at h<;>try cases h
 case box e x=>
  split at h
  ·split at h
   ·rename_i w;injection h with h
    injection h with j m
    subst j m;refine⟨rfl,fun h=>by simp at h,fun o g=>?_⟩;grind [gh]
   cases h
  cases h
 case alloc e=>
  split at h
  ·split at h
   ·injection h with h
    injection h with j m
    subst j m;refine⟨rfl,fun h=>by simp at h,fun o g=>?_⟩;simp at g;subst g;exact gh (fun e q x p=>by simp at q;subst q;simp at p;obtain⟨y,_,rfl⟩:=p;rfl)
   cases h
  cases h
 case makeSlice ty l c=>
  split at h
  ·split at h
   ·split at h
    ·injection h with h
     injection h with j m
     subst j m;refine⟨rfl,fun h=>by simp at h,fun o g=>?_⟩;simp at g;subst g;exact gh (fun e q x p=>by simp[agM]at q;rw[q.2]at p;simp at p;obtain⟨y,_,rfl⟩:=p;rfl)
    cases h
   cases h
  cases h
 case buildSlice ty n parts=>
  split at h
  ·split at h
   ·split at h
    ·rename_i l I;split at h
     ·split at h
      ·injection h with h
       injection h with j m
       subst j m;refine⟨rfl,fun h=>by simp at h,fun o g=>?_⟩;grind [gh,IV]
      injection h with h
      injection h with j m
      subst j m;exact⟨trivial,fun _=>rfl,fun o g=>by simp at g⟩
     cases h
    cases h
   cases h
  cases h
 case call c=>
  split at h
  ·split at h
   ·rename_i D G u v;split at h
    ·rename_i w;injection h with h
     injection h with j m
     subst j m;refine⟨BP _ _,fun A=>?_,fun o g=>?_⟩
     ·grind [List.map_eq_nil_iff,DT]
     simp only[aeL]at g;obtain⟨E,_,rfl⟩:=g;intro e q x p;grind [renO,gk]
    cases h
   cases h
  ·split at h
   ·rename_i b r D G B u v;split at h
    ·rename_i w;injection h with h
     injection h with j m
     subst j m;refine⟨BP _ _,fun A=>?_,fun o g=>?_⟩
     ·grind [List.map_eq_nil_iff,DT]
     simp only[aeL]at g;obtain⟨E,_,rfl⟩:=g;intro e q x p;grind [renO,gk]
    cases h
   cases h
  ·split at h
   ·split at h
    ·rename_i z e J p C;split at h
     ·split at h
      ·injection h with h
       injection h with j m
       subst j m;refine⟨rfl,fun h=>by simp at h,fun o g=>?_⟩;grind [Option.bind_eq_some_iff,gh,DR]
      cases h
     cases h
    cases h
   cases h
  cases h
theorem nE {k:Nat->Nat->Bool} (h: ∀a r,H a≠[]->k a r=false->H' a≠[]) (c:il H q):il H' (aY k q):=by
 cases q with
 |sl a r g len=>
  simp only[aY];cases e:k a r with
  |true=>trivial
  |false=>exact h a r c e
 |ptr a r i j=>
  simp only[aY];cases e:k a r with
  |true=>trivial
  |false=>exact h a r c e
 |p q=>trivial
 |junk=>trivial
 |fn f a m=>
  simp only[aY];split
  ·trivial
  rename_i e;refine⟨?_,c.2⟩;cases m with
  |nil=>exact absurd rfl c.2
  |cons b l=>exact h a b.1 c.1 (by grind)
theorem yu {k:Nat->Nat->Bool} (h: ∀a r,H a≠[]->k a r=false->H' a≠[]) (g:ji H f):ji H' (bi k f):=by
 cases f with
 |one x=>exact nE h g
 |agg m=>intro y c;simp only[aeL]at c;obtain⟨z,e,rfl⟩:=c;exact nE h (g z e)
 |fn b m=>intro y c;simp only[aeL]at c;obtain⟨z,e,rfl⟩:=c;exact nE h (g z e)
 |tup o=>
  intro f l y c;simp only[aeL]at l;obtain⟨n,j,rfl⟩:=l;simp only[aeL]at c;obtain⟨z,e,rfl⟩:=c;exact nE h (g n j z e)
theorem v7 {a:Nat} {o:OObj} (c: ∀o∈l,selfO a o) (b:selfO a g): ∀o∈l.set n g,selfO a o:=fun x e=>by
 grind
theorem vO {a i:Nat} {e h:List AV} (c:selfO a g) (l:g.elems[i]?=some e) (m: ∀x∈h,bJ a x):selfO a {g with elems:=g.elems.set i (putCells e n h)}:=fun y f x b=>by
 rcases af5 f with f|rfl
 ·exact c y f x b
 unfold putCells at b;simp only[afD]at b;rcases b with(b|b)|b
 ·exact c e (adQ l) x (agf b)
 ·grind
 exact c e (adQ l) x (agA b)
theorem QL (B:nl s) {op:Op} {q:Kr} (h:iY P s.ev s.H op=some q):(∀a r,s.H a≠[]->q.k a r=false->q.H a≠[])/\(∀a,∀o∈q.H a,selfO a o)/\ji q.H q.t:=by
 have w: ∀H,ji H TV.undef:=fun H t ht=>by simp at ht
 have l: ∀{a r:Nat} {o:OObj} {F:List OObj},(s.H a)[r]?=some o->F.length>=(s.H a).length->(∀o∈F,selfO a o)->(∀(b Y:Nat),s.H b≠[]->aK s.H a F b≠[])/\ ∀b,∀o∈aK s.H a F b,selfO b o:=fun{a r o F} u hlen hF=>by
  have V:0<(s.H a).length:=by grind
  refine⟨fun b _ O=>?_,fun b X G=>?_⟩
  ·grind [be,aU]
  by_cases E:b=a
  ·grind [be]
  rw[aU E]at G;exact B.2 b X G
 cases op<;>simp only[iY]at h<;>try cases h
 case store t ad x=>
  split at h
  ·rename_i a r i j n ab hn;split at h
   ·rename_i o u;have m:=B.2 a o (adQ u);split at h
    ·rename_i e A;split at h
     ·rename_i I Y N len C;split at h
      ·rename_i K;subst K;split at h
       ·injection h with h
        subst h;obtain⟨D,J⟩:=l u (F:=(s.H I).set r {o with elems:=o.elems.set i (putCells e j [.sl I Y N len])}) (by simp) (v7 (o:=o) (B.2 I) (vO m A (fun y g=>by simp at g;subst g;rfl)));grind
       cases h
      rename_i K;split at h
      ·rename_i ob hH;split at h
       ·rename_i L;injection h with h
        subst h;have Q:=L.2.2.2.2.2.2;simp only[aeP]at Q;obtain⟨D,J⟩:=l u (F:=(s.H a).set r {o with elems:=o.elems.set i (putCells e j [.sl a (s.H a).length 0 len])}++[ob]) (by simp) (fun y g=>by
         rcases afD.1 g with g|g
         ·exact v7 (o:=o) (B.2 a) (vO m A (fun y g=>by simp at g;subst g;rfl)) y g
         grind [gh])
        refine⟨fun b r O hk=>?_,fun b X G=>?_,w _⟩
        ·have E:b≠I:=by grind
         show aK _ I [] b≠[];rw[aU E];exact D b r O
        grind [be,aU]
       cases h
      cases h
     ·rename_i f U C;split at h
      ·rename_i qs af;split at h
       ·rename_i L;injection h with h
        subst h;obtain⟨D,J⟩:=l u (F:=(s.H a).set r {o with elems:=o.elems.set i (putCells e j [.fn f a qs])}) (by simp) (v7 (o:=o) (B.2 a) (vO m A (fun y g=>by simp at g;subst g;exact⟨rfl,agO L.2.2⟩)));grind
       cases h
      cases h
     ·rename_i v hv ah C;split at h
      ·rename_i U ae;split at h
       ·rename_i L;injection h with h
        subst h;have Q:=L.2.2;simp only[aeP]at Q;obtain⟨D,J⟩:=l u (F:=(s.H a).set r {o with elems:=o.elems.set i (putCells e j U)}) (by simp) (v7 (o:=o) (B.2 a) (vO m A (fun y g=>DW (Q y g))));grind
       cases h
      cases h
     cases h
    cases h
   cases h
  cases h
 case call c=>
  split at h
  ·split at h
   ·rename_i a r N len M e hs C ag;split at h
    ·rename_i o z sz aa u hz W ac;split at h
     ·injection h with h
      subst h;obtain⟨tx,_,hn⟩:=aeZ.1 C;have m:=B.2 a o (adQ u);obtain⟨D,J⟩:=l u (F:=((s.H a).map (oI fun x y=>x==a&&y==r)).set r {o with elems:=o.elems++M}) (by simp) (fun y g=>by
       rcases af5 g with g|rfl
       ·simp only[aeL]at g;obtain⟨o2,S,rfl⟩:=g;intro e A x C;simp only[oI,aeL]at A;obtain⟨e',R,rfl⟩:=A;simp only[aeL]at C;obtain⟨Z,T,rfl⟩:=C;have:=B.2 a o2 S e' R Z T;cases Z with
        |sl b _ _ _=>simp only[aY];split;trivial;omega
        |ptr b _ _ _=>simp only[aY];split;trivial;omega
        |fn _ b _=>simp only[aY];split;trivial;omega
        |p x=>trivial
        |junk=>trivial
       intro e A x C;grind [dj,DR])
      refine⟨fun b r O _=>D b r O,J,?_⟩;exact D a r (by grind)
     cases h
    cases h
   cases h
  cases h
theorem EK {i:Nat} (f:nl s) (h:bs P items ow ops i j s=some s1):nl s1:=by
 rw[bW]at h;obtain⟨out,c,h⟩:=aeZ.1 h;unfold dY at c;have g:ji s.H TV.undef:=fun t D=>by simp at D
 split at c
 ·unfold lO at c;split at c
  ·grind [Option.map_eq_some_iff,cW,oT,QN]
  split at c
  ·grind [Option.map_eq_some_iff,cW,oT,QO]
  split at c
  ·rename_i q C;injection c with c
   subst c;simp only[cW]at h;injection h with h;subst h
   obtain⟨u,v,w⟩:=QL f C;refine oT ⟨fun t x m=>?_,v⟩ w;simp only[aeG]at m;obtain⟨y,E,rfl⟩:=adT.1 m;exact yu u (f.1 t y E)
  split at c
  ·cases c
  rename_i d A;cases n:dM P items ow i d s.ev s.H j.op with
  |none=>rw[n]at c;cases c
  |some I=>
   obtain⟨t,F⟩:=I;rw[n]at c;obtain⟨f1,f2,f3⟩:=AL n;cases F with
   |nil=>
    grind [RD,cW,oT,LR]
   |cons r l=>
    simp only[RD]at c;injection c with c
    subst c;simp only[cW,A]at h;split at h
    ·rename_i J;injection h with h
     subst h;refine oT ⟨fun k x m=>?_,fun b G e=>?_⟩ (JC f1 (by simp[be]))
     ·have:=f.1 k x m;have B: ∀a,s.H a≠[]->aK s.H d (r::l) a≠[]:=fun a p=>by grind [aU]
      have:=yu (H':=aK s.H d (r::l)) (k:=fun _ _=>false) (fun a _ p _=>B a p) this;grind [pS]
     by_cases z:b=d
     ·grind [be]
     simp only[aU z]at e;exact f.2 b G e
    cases h
 ·grind [cW,oT]
 grind
end
end
section
def noD:Op->Bool
 | .store ..=>false
 | .call {callee:= .builtin .append,..}=>false
 |_=>true
theorem Bs {P:Program} {op:Op} (h:noD op=true): ∀e G,iY P e G op=none:=fun e G=>by
 cases op<;>simp only[iY]<;>try rfl
 case store=>cases h
 case call c=>
  obtain⟨callee,args,g⟩:=c;cases callee with
  |value f=>rfl
  |invoke r m=>rfl
  |builtin b=>cases b<;>first|rfl|cases h
def md (acc:List Nat):List Edge->Nat
 |[]=>0
 |e::l=>if Region.binds .any e then 2^e.on|||(acc.getD e.on 0|||md acc l)else md acc l
def qv:List Oper->List Nat->List Nat
 |[],acc=>acc
 |o::l,acc=>qv l (acc++[md acc o.after.toList])
def Vm:Op->Option Nat
 | .move (.tmp k)=>some k
 | .assign (.tmp k)=>some k
 | .nilCheck (.tmp k)=>some k
 | .fieldAddr _ (.tmp k) _=>some k
 | .load _ (.tmp k)=>some k
 | .indexAddr _ (.tmp k) _=>some k
 |_=>none
def Fc (b:List (Nat×Nat×Nat)) (o:Oper):Bool:=b.all fun x=>o.dst !=some x.1||(o.guard.isNone&&match o.op with
 | .alloc _=>x.1==x.2.1
 |op=>match Vm op with
  |some k=>b.any fun y=>y.1==k&&y.2.1==x.2.1
  |none=>false)
def Wn (b:List (Nat×Nat×Nat)) (c e:Oper):Bool:=match e.op with
 | .store t (.tmp q) _=>!qp c.op&&A7 c.op&&c.guard.isNone&&e.guard.isNone&&b.any fun y=>y.1==q&&y.2.2==t&&c.op.operands.toList.all fun z=>match z with
  | .tmp k=>b.any fun x=>x.1==k&&x.2.1 !=y.2.1
  |_=>true
 |_=>false
def xF (f:List (Nat×Nat×Nat)) (e:Array Oper) (b c:Oper):Bool:=b.apart e c&&(qp b.op||qp c.op||(noD b.op&&noD c.op)||Wn f b c)
def Jr (c:List (Nat×Nat×Nat)) (b:Array Oper) (e:Oper) (m:Nat):List Oper->Nat->Bool
 |[],_=>true
 |oi::l,i=>(m.testBit i||xF c b oi e)&&Jr c b e m l (i+1)
def Gc (c:List (Nat×Nat×Nat)) (b:Array Oper) (A:List Nat):List Oper->Nat->Bool
 |[],_=>true
 |oj::l,j=>oj.after.all (fun e=>!Region.binds .any e||decide (e.on<j))&&Jr c b oj (A.getD j 0) (b.toList.take j) 0&&Gc c b A l (j+1)
def cz (c:List (Nat×Nat×Nat)) (b:Array Oper):Bool:=Gc c b (qv b.toList []) b.toList 0&&b.toList.all (Fc c)
def Tc (b:List (Nat×Nat×Nat)) (s:AS):Prop:= ∀x∈b,∀t,s.tmps[x.1]?=some t->selfTV x.2.1 t
def ND (b:List (Nat×Nat×Nat)) (s:AS):Prop:=nl s/\Tc b s
def Qd (P:Program) (b:List (Nat×Nat×Nat)) (c:Array Oper):Prop:=(∀x∈b,szO P x.2.2≠some 1)/\ ∀(j:Nat) o,c[j]?=some o->Fc b o=true
section
variable {ops:Array Oper} {sep:List (Nat×Nat×Nat)}
theorem Dm: ∀(l:List Oper) (acc:List Nat),(qv l acc).length=acc.length+l.length/\(∀k,k<acc.length->(qv l acc)[k]?=acc[k]?)/\
  ∀(j:Nat) o,l[j]?=some o->(qv l acc)[acc.length+j]?=some (md ((qv l acc).take (acc.length+j)) o.after.toList)
 |[],acc=>⟨by simp[qv],fun k _=>rfl,fun j o h=>by simp at h⟩
 |o::l,acc=>by
  obtain⟨e,c,f⟩:=Dm l (acc++[md acc o.after.toList]);simp only[qv];refine⟨by grind,fun k g=>by grind,fun j m b=>?_⟩;cases j with
  |zero=>
   simp at b;subst b;rw[ago,c acc.length (by simp)];have:(qv l (acc++[md acc o.after.toList])).take acc.length=acc:=by
    apply aeW;grind
   grind
  |succ j=>
   grind
theorem qN {acc:List Nat} {i:Nat}: ∀{l:List Edge},(md acc l).testBit i=true-> ∃e∈l,Region.binds .any e=true/\(e.on=i\/(acc.getD e.on 0).testBit i=true)
 |[],h=>by simp[md]at h
 |e::l,h=>by
  simp only[md]at h;split at h
  ·rename_i g;simp only[aiz,ag7,ahK,decide_eq_true_eq]at h;rcases h with h|h|h
   ·grind
   ·grind
   obtain⟨b,c,f⟩:=qN h;grind
  obtain⟨b,c,f⟩:=qN h;grind
def Ex (ops:Array Oper) (p:Nat->Bool):Prop:= ∀(j:Nat) o,ops[j]?=some o->p j=true-> ∀e∈o.after,Region.binds .any e=true->p e.on=true
theorem jY (q:Ex ops h) {i:Nat}: ∀(n j:Nat),j<n->j<ops.size->h j=true->((qv ops.toList []).getD j 0).testBit i=true->h i=true:=by
 intro n
 induction n with
 |zero=>omega
 |succ n u=>
  intro j _ f g c;obtain⟨s,_,l⟩:=Dm ops.toList [];have o:ops.toList[j]?=some ops[j]:=by simp[f]
  have:=l j _ o;simp only[afP,afm]at this;rw[aeM,this,agu]at c;obtain⟨e,t,m,b⟩:=qN c;have r:=q j ops[j] (by simp[f]) g e (by grind) m;grind
theorem BX {f:Oper} {m:Nat}: ∀{l:List Oper} {c:Nat},Jr sep ops f m l c=true-> ∀(k:Nat) b,l[k]?=some b->m.testBit (c+k)=true\/xF sep ops b f=true
 |[],c,_,k,b,h=>by simp at h
 |o::l,c,h,k,b,e=>by
  simp only[Jr,afb,ag7]at h;cases k with
  |zero=>grind
  |succ k=>
   simp at e;have:=BX h.2 k b e;grind
theorem rG {A:List Nat}: ∀{l:List Oper} {b:Nat},Gc sep ops A l b=true-> ∀(k:Nat) c,l[k]?=some c->(∀e∈c.after,Region.binds .any e=true->e.on<b+k)/\Jr sep ops c (A.getD (b+k) 0) (ops.toList.take (b+k)) 0=true
 |[],b,_,k,c,h=>by simp at h
 |o::l,b,h,k,c,f=>by
  simp only[Gc,afb]at h;cases k with
  |zero=>
   grind [Array.all_eq_true_iff_forall_mem]
  |succ k=>
   simp at f;have:=rG h.2 k c f;grind
theorem oF (h:cz sep ops=true):(∀(j:Nat) o,ops[j]?=some o-> ∀e∈o.after,Region.binds .any e=true->e.on<j)/\
  ∀(i j:Nat) b c,i<j->ops[i]?=some b->ops[j]?=some c->((qv ops.toList []).getD j 0).testBit i=true\/xF sep ops b c=true:=by
 unfold cz at h;rw[afb]at h
 replace h:=h.1
 refine⟨fun j o p e g f=>?_,fun i j b c l m n=>?_⟩
 ·have:=(rG h j o (by grind)).1 e g f;omega
 have:=(rG h j c (by grind)).2;rw[afm]at this;have:=BX this i b (by grind);grind
variable {P:Program} {items:List (dD P)} {ow:List Nat}
noncomputable def eK (P:Program) (items:List (dD P)) (ow:List Nat) (ops:Array Oper) (i:Nat) (s:AS):Option AS:=match ops[i]? with
 |some o=>bs P items ow ops i o s
 |none=>none
noncomputable def dS (P:Program) (items:List (dD P)) (ow:List Nat) (ops:Array Oper):List Nat->AS->Option AS
 |[],s=>some s
 |i::l,s=>(eK P items ow ops i s).bind (dS P items ow ops l)
theorem jO (l m:List Nat) (s:AS):dS P items ow ops (l++m) s=(dS P items ow ops l s).bind (dS P items ow ops m):=by
 induction l generalizing s with
 |nil=>rfl
 |cons i l b=>
  simp only[agr,dS];cases eK P items ow ops i s with
  |none=>rfl
  |some c=>exact b c
theorem oE (h:cz sep ops=true) (b: ∀x∈sep,szO P x.2.2≠some 1):Qd P sep ops:=⟨b,fun j o c=>by
 unfold cz at h;grind⟩
theorem Rb {a:Nat} {k:Nat->Nat->Bool} (h:selfTV a f):selfTV a (bi k f):=by
 have g: ∀x,bJ a x->bJ a (aY k x):=fun x c=>by
  cases x<;>simp only[aY]<;>(try split)<;>first|exact c|trivial
 cases f with
 |one x=>exact g x h
 |agg j=>intro x c;obtain⟨y,e,rfl⟩:=aeL.1 c;exact g y (h y e)
 |fn b j=>intro x c;obtain⟨y,e,rfl⟩:=aeL.1 c;exact g y (h y e)
 |tup n=>
  intro u l x c;obtain⟨v,m,rfl⟩:=aeL.1 l;obtain⟨y,e,rfl⟩:=aeL.1 c;exact g y (h v m y e)
theorem DY {a:Nat} {t:TypeId} {b:List AV} (h:nJ P t b=some f) (c: ∀x∈b,bJ a x):selfTV a f:=by
 unfold nJ at h;split at h
 ·split at h
  ·injection h with h;subst h;exact fun x e=>c x (agf e)
  cases h
 ·split at h
  ·injection h with h;subst h;exact c _ (by simp)
  cases h
 cases h
theorem Rg {a k i:Nat} {d:Option Tmp} {op:Op} {out:Yl} (g:Vm op=some k) (u:nl s) (h: ∀t,s.tmps[k]?=some t->selfTV a t) (j:lO P items ow i d op s.ev s.H=some out): ∃t,out= .val t/\selfTV a t:=by
 have f: ∀t,s.ev (.tmp k)=some t->selfTV a t:=h;unfold Vm at g;split at g<;>first|(injection g with g;subst g)|cases g
 ·obtain⟨t,c,rfl⟩:=adT.1 j;exact⟨t,rfl,f t c⟩
 ·obtain⟨t,c,rfl⟩:=adT.1 j;exact⟨t,rfl,f t c⟩
 ·obtain⟨t,c,rfl⟩:=adT.1 j;refine⟨t,rfl,?_⟩;simp only[b9]at c;split at c
  ·injection c with c;subst c;trivial
  ·rename_i e;injection c with c;subst c;exact f _ e
  cases c
 ·obtain⟨t,c,rfl⟩:=adT.1 j;refine⟨t,rfl,?_⟩;simp only[b9]at c;split at c
  ·split at c
   ·injection c with c;subst c;trivial
   cases c
  ·rename_i e;split at c
   ·injection c with c;subst c;have q:=f _ e;exact q
   cases c
  cases c
 ·obtain⟨t,c,rfl⟩:=adT.1 j;refine⟨t,rfl,?_⟩;simp only[b9]at c;split at c
  ·exact DY c fun y n=>by obtain⟨z,_,rfl⟩:=aeL.1 n;trivial
  ·rename_i b r v w e;have e:b=a:=f _ e;subst e;split at c
   ·rename_i o m;split at c
    ·rename_i p l;exact DY c fun y n=>u.2 b o (adQ m) p (adQ l) y (agA n)
    cases c
   cases c
  cases c
 obtain⟨t,c,rfl⟩:=adT.1 j;refine⟨t,rfl,?_⟩;simp only[b9]at c
 repeat' split at c
 all_goals first|(cases c;done)|(injection c with c;subst c;first|trivial|(show _=a;first|exact f (.one (.sl _ _ _ _)) (by assumption)|exact f (.one (.ptr _ _ _ _)) (by assumption)))
theorem IX (Q:Qd P sep ops) {i:Nat} (R:ops[i]?=some j) (z:ND sep s) (h:bs P items ow ops i j s=some b):ND sep b:=by
 refine⟨EK z.1 h,fun x G t m=>?_⟩;have g:=Q.2 i j R;unfold Fc at g;have g:=aeP.1 g x G;rw[bW]at h;obtain⟨out,n,h⟩:=aeZ.1 h;by_cases D:j.dst=some x.1
 ·have J:(j.dst !=some x.1)=false:=by simp[D]
  rw[J,Bool.false_or,afb]at g;obtain⟨L,g⟩:=g;have L:j.guard=none:=by simpa using L
  have c:lO P items ow i j.dst j.op s.ev s.H=some out:=by
   unfold dY gate at n;rwa[L]at n
  have key: ∃f,selfTV x.2.1 f/\(out= .val f\/ ∃C l,out= .new f C l):=by
   cases B:j.op with
   |alloc U=>
    rw[B]at g c;have e:x.1=x.2.1:=by simpa using g
    rw[D]at c;unfold lO at c;simp only[qp,A7,iY,afq,if_false]at c;cases I:dM P items ow i x.1 s.ev s.H (.alloc U)with
    |none=>rw[I]at c;cases c
    |some r=>
     obtain⟨f,F⟩:=r;have E:=(AL I).1;rw[e]at E;rw[I]at c;cases F with
     |nil=>injection c with c;exact⟨f,E,.inl c.symm⟩
     |cons C l=>injection c with c;exact⟨f,E,.inr ⟨C,l,c.symm⟩⟩
   |_=>
    rw[B]at g c;simp only at g;split at g
    ·rename_i k M;obtain⟨y,T,w⟩:=ah8.1 g;simp only[afb,beq_iff_eq]at w;obtain⟨f,N,O⟩:=Rg M z.1 (fun t m=>by
      have:=z.2 y T t (by rw[w.1];exact m);rwa[w.2]at this) c
     exact⟨f,O,.inl N⟩
    cases g
  obtain⟨f,E,M⟩:=key;have p: ∀H,(AS.put ⟨s.tmps,H⟩ j.dst f).tmps[x.1]?=some t->selfTV x.2.1 t:=fun H h=>by
   rw[D]at h;unfold AS.put at h;simp only[afG]at h;grind
  rcases M with rfl|⟨C,l,rfl⟩
  ·simp only[cW]at h;injection h with h;subst h
   exact p s.H m
  simp only[cW]at h;split at h
  ·rename_i e A;split at h
   ·injection h with h;subst h
    rw[<- A]at m;exact p _ m
   cases h
  cases h
 have v: ∀e,j.dst=some e->e≠x.1:=fun e A K=>D (by rw[A,K])
 cases out with
 |val f=>
  simp only[cW]at h;injection h with h;subst h
  rw[mZ s _ f x.1 v]at m;exact z.2 x G t m
 |new f C l=>
  simp only[cW]at h;split at h
  ·rename_i e A;split at h
   ·injection h with h;subst h
    rw[<- A,mZ ⟨s.tmps,_⟩ _ f x.1 v]at m;exact z.2 x G t m
   cases h
  cases h
 |wr q=>
  simp only[cW]at h;injection h with h;subst h
  rw[mZ ⟨s.tmps.map (bi q.k),_⟩ _ q.t x.1 v,aeG]at m;obtain⟨u,S,rfl⟩:=adT.1 m;exact Rb (z.2 x G u S)
theorem RR (c:Qd P sep ops) {l:List Nat} (e:ND sep s) (h:dS P items ow ops l s=some b):ND sep b:=by
 induction l generalizing s with
 |nil=>grind [dS]
 |cons i l f=>
  grind [dS,Option.bind_eq_some_iff,eK,IX]
theorem Ri (b:List TV):b.map (bi fun _ _=>false)=b:=by
 conv=>rhs;rw[<- agz b]
 grind [List.map_congr_left,pS]
theorem MF {t:TypeId} {f x:Operand} {q:Kr} (l:szO P t≠some 1) (h:iY P s.ev s.H (.store t f x)=some q): ∃b r i j F,s.ev f=some (.one (.ptr b r i j))/\q=⟨.undef,aK s.H b F,fun _ _=>false⟩:=by
 simp only[iY]at h;split at h
 ·rename_i a r i j n g c;have m:n≠1:=fun e=>l (by rw[c,e])
  split at h
  ·grind
  cases h
 cases h
theorem K4 {d:Nat} (v:Value):selfTV d (nI v):=by
 unfold nI;split<;>split<;>first|trivial|(intro x b;obtain⟨y,_,rfl⟩:=aeL.1 b;trivial)
theorem Ea {a:Nat} {H:OH} (m:a≠n) (h:selfTV a f):nf H (aK H n l) f:=by
 have o: ∀x,bJ a x->ul H (aK H n l) x:=fun x g=>by
  cases x with
  |sl c r v len=>obtain rfl:c=a:=g;exact aU m
  |ptr c r i j=>obtain rfl:c=a:=g;exact aU m
  |fn e c w=>obtain rfl:c=a:=g.1;exact aU m
  |p y=>trivial
  |junk=>trivial
 cases f with
 |one x=>exact o x h
 |agg q=>exact fun x g=>o x (h x g)
 |fn e q=>exact fun x g=>o x (h x g)
 |tup z=>exact fun u s x g=>o x (h u s x g)
theorem Wo (Y:Qd P sep ops) {i:Nat} {w:Oper} {U:AS} (l:Wn sep j w=true) (T:ND sep s) (E:nS ops w j.dst) (G:nS ops j w.dst) (hd: ∀k,j.dst=some k->w.dst≠some k) (o:bs P items ow ops i j s=some b) (p:bs P items ow ops n w b=some U): ∃V,bs P items ow ops n w s=some V/\bs P items ow ops i j V=some U:=by
 unfold Wn at l;split at l
 ·rename_i t q x C;simp only[afb]at l;obtain⟨⟨⟨⟨r,hr⟩,R⟩,S⟩,l⟩:=l;obtain⟨y,O,l⟩:=ah8.1 l;simp only[afb,beq_iff_eq]at l;obtain⟨⟨hq,M⟩,J⟩:=l;have r:qp j.op=false:=by simpa using r
  have R:j.guard=none:=by simp_all
  have S:w.guard=none:=by simp_all
  rw[bW]at o p;obtain⟨ui,B,o⟩:=aeZ.1 o;obtain⟨uj,u,p⟩:=aeZ.1 p;have W: ∀s,dY P items ow ops i j s=(b9 P s.ev s.H j.op).map .val:=fun s=>by
   unfold dY gate lO;rw[R];simp only[r,hr,afq,if_false,if_true]
  rw[W]at B;obtain⟨tv,L,rfl⟩:=adT.1 B;simp only[cW]at o;injection o with o
  subst o;rw[dW E]at u;have h:=u;unfold dY gate lO at h;rw[S]at h;simp only at h;rw[C]at h;simp only[qp,A7,afq,if_false]at h;split at h
  ·rename_i qq K;injection h with h
   subst h;obtain⟨c,r',i',j',F,Z,rfl⟩:=MF (by rw[<- M];exact Y.1 y O) K;have D:c=y.2.1:=by
    have:=T.2 y O (.one (.ptr c r' i' j')) (by rw[hq];exact Z);exact this
   simp only[cW]at p;injection p with p
   subst p;refine⟨_,by rw[bW,u];rfl,?_⟩;rw[bW,dW G,W];simp only[Ri];have e:b9 P (AS.ev ⟨s.tmps,aK s.H c F⟩) (aK s.H c F) j.op=some tv:=by
    rw[<- L];refine(AO (fun y O=>?_) (fun z hz tt m=>?_)).symm
    ·rfl
    have Q:=aeP.1 J z (by simpa using hz);cases z with
    |tmp k=>
     obtain⟨X,N,A⟩:=ah8.1 Q;simp only[afb,beq_iff_eq,bne_iff_ne,ne_eq]at A;exact Ea (a:=X.2.1) (by rw[D];exact A.2) (T.2 X N tt (by rw[A.1];exact m))
    |const v=>
     injection m with m
     subst m;exact Ea (a:=c+1) (by omega) (K4 v)
    |global g=>injection m with m;subst m;trivial
    |func f=>injection m with m;subst m;trivial
   rw[e];simp only[afV,agZ,cW];rw[i9 _ _ _ (fun k A I=>hd k I (by rw[A]))]
   congr 2
   cases j.dst<;>rfl
  grind [dM,RD]
 cases l
theorem RG (w:Qd P sep ops) {i:Nat} {l:Oper} {u:AS} (h:xF sep ops j l=true) (t:ND sep s) (q:bs P items ow ops i j s=some b) (r:bs P items ow ops n l b=some u):
  ∃v,bs P items ow ops n l s=some v/\bs P items ow ops i j v=some u:=by
 unfold xF at h;simp only[afb,ag7]at h;obtain⟨x,c⟩:=h;obtain⟨m,o,p⟩:=Oper.apart_spec x;rcases c with c|c
 case inr=>exact Wo w c t (fun e f=>m e f) (fun e f=>p e f) (fun k g=>o k g) q r
 refine Sa t.1 (fun e f=>m e f) (fun e f=>p e f) (fun k g=>o k g) ?_ q r;rcases c with(c|c)|c
 ·exact .inl c
 ·exact .inr (.inl c)
 exact .inr (.inr ⟨Bs c.1,Bs c.2⟩)
theorem TS (g:Qd P sep ops) {i:Nat} {t:Oper} (p:ops[i]?=some t): ∀{l:List Nat} {s c:AS},ND sep s->(∀j∈l,∃n,ops[j]?=some n/\xF sep ops t n=true)->dS P items ow ops (i::l) s=some c->
  ∃o,dS P items ow ops l s=some o/\eK P items ow ops i o=some c
 |[],s,c,_,_,h=>by
  grind [dS,Option.bind_eq_some_iff]
 |j::l,s,c,r,q,h=>by
  simp only[dS]at h;obtain⟨B,e,h⟩:=aeZ.1 h;obtain⟨C,f,y⟩:=aeZ.1 h;obtain⟨n,b,v⟩:=q j (by simp);unfold eK at e f;rw[p]at e;rw[b]at f;obtain⟨t1,u,x⟩:=RG g v r e f;have w:dS P items ow ops (i::l) t1=some c:=by
   grind [dS,eK]
  obtain⟨o,z,A⟩:=TS g p (IX g b r u) (fun j m=>q j (by simp[m])) w;grind [dS,eK]
def oX (n:Nat) (p:Nat->Bool):List Nat:=(List.range n).filter p
def fc (p:Nat->Bool) (i:Nat):Nat->Bool:=fun j=>j==i||p j
theorem xS {i:Nat} (f:i<n) (p:Nat->Bool) (b:p i=false):
  oX n p=(List.range i).filter p++(List.range' (i+1) (n-i-1)).filter p/\oX n (fc p i)=(List.range i).filter p++i::(List.range' (i+1) (n-i-1)).filter p:=by
 have c:List.range n=List.range i++i::List.range' (i+1) (n-i-1):=by
  have e:=afk (s:=0) (m:=i) (n:=n-i-1+1);grind [List.range'_succ,List.range_eq_range']
 unfold oX;rw[c];simp only[aiN,List.filter_cons,b];grind [fc,List.filter_congr]
theorem Ce (g:Qd P sep ops) (B:cz sep ops=true) (A:Ex ops h) {i:Nat} (l:i<ops.size) (y:h i=false) (w:ND sep s) (c:dS P items ow ops (oX ops.size (fc h i)) s=some b):
  ∃f,dS P items ow ops (oX ops.size h) s=some f/\eK P items ow ops i f=some b:=by
 obtain⟨z,m⟩:=xS l h y;rw[m,jO]at c;obtain⟨E,n,o⟩:=aeZ.1 c;have x:ops[i]?=some ops[i]:=by simp[l]
 obtain⟨f,C,D⟩:=TS g x (RR g w n) (fun j q=>by
  obtain⟨e,r⟩:=ahG.1 q;obtain⟨t,u⟩:=List.mem_range'_1.1 e;have v:j<ops.size:=by omega
  grind [oF,jY]) o
 grind [jO]
theorem EX (f:Ex ops h) {i:Nat} (b: ∀o,ops[i]?=some o-> ∀e∈o.after,Region.binds .any e=true->h e.on=true):Ex ops (fc h i):=fun j o m n e g c=>by
 by_cases l:j=i
 ·grind [fc]
 have:h j=true:=by grind [fc]
 simp[fc,f j o m this e g c]
theorem td {n:Nat} {p:Nat->Bool}:(∀j,j<n->p j=true)\/ ∃i,i<n/\p i=false/\ ∀j,j<i->p j=true:=by
 by_cases h: ∃i,i<n/\p i=false
 ·grind [Fa]
 grind
theorem Wm (E:Qd P sep ops) (u:cz sep ops=true) (G:ND sep s) (D:dS P items ow ops (List.range ops.size) s=some b): ∀(m:Nat) (p:Nat->Bool),((List.range ops.size).filter fun j=>!p j).length<=m->Ex ops p-> ∃c,dS P items ow ops (oX ops.size p) s=some c:=by
 intro m
 induction m with
 |zero=>
  intro p x _;have f: ∀j,j<ops.size->p j=true:=fun j F=>by
   simp_all
  grind [oX,List.filter_eq_self]
 |succ m H=>
  intro p x r;rcases td (n:=ops.size) (p:=p)with f|⟨i,w,z,h⟩
  ·grind [oX,List.filter_eq_self]
  have t:Ex ops (fc p i):=EX r fun o y e v q=>h _ ((oF u).1 i o y e v q)
  have g:((List.range ops.size).filter fun j=>!fc p i j).length<=m:=by
   have l:((List.range ops.size).filter fun j=>!p j).length=((List.range ops.size).filter fun j=>!fc p i j).length+1:=by
    obtain⟨A,B⟩:=xS w (fun j=>!fc p i j) (by simp[fc]);have C:oX ops.size (fc (fun j=>!fc p i j) i)=(List.range ops.size).filter fun j=>!p j:=ahu fun j _=>by
     grind [fc]
    grind [oX]
   omega
  grind [Ce]
theorem jb: ∀(l:List Oper) (k:Nat) (s:AS),(∀(j:Nat) o,l[j]?=some o->ops[k+j]?=some o)->ja P items ow ops (l.zipIdx k) s=dS P items ow ops (List.range' k l.length) s
 |[],k,s,_=>rfl
 |o::l,k,s,h=>by
  simp only[agt,ja,ae6,afj,dS];have b:ops[k]?=some o:=by have:=h 0 o rfl;omega
  unfold eK;rw[b];simp only;cases bs P items ow ops k o s with
  |none=>rfl
  |some c=>
   simp only[agZ];exact jb l (k+1) c (fun j o e=>by have:=h (j+1) o (by grind);grind)
def uO (ops:Array Oper) (Qn:Act->World->Prop) (Wp:Nat->(Act->World->Prop)->Act->World->Prop):Nat->Array Bool->Act->World->Prop
 |0,b,a,w=>Region.ready .any ops b=[]/\Qn a w
 |f+1,b,a,w=>(Region.ready .any ops b=[]->Qn a w)/\ ∀i∈Region.ready .any ops b,Wp i (uO ops Qn Wp f (b.setIfInBounds i true)) a w
theorem Hz {Q:Exit->Act->World->Prop}: ∀f,uO ops (Q .normal) (fun i K a w=>wpOp P ops Q i K a w) f=wpAny P .any ops Q f
 |0=>rfl
 |f+1=>by
  funext l a w;simp only[uO,wpAny,Hz f]
theorem pA (N:Qd P sep ops) (O:cz sep ops=true) {Qn:Act->World->Prop} {Wp:Nat->(Act->World->Prop)->Act->World->Prop} (R:(Nat->Bool)->AS->Act->World->Prop) (Q:ND sep s) (M:dS P items ow ops (List.range ops.size) s=some b) (X: ∀p a w,(∀j,j<ops.size->p j=true)->R p b a w->Qn a w) (J: ∀(p:Nat->Bool) (i:Nat) (o:Oper) (c L:AS) (a:Act) (w:World) (K:Act->World->Prop),ops[i]?=some o->p i=false->Ex ops p/\Ex ops (fc p i)/\dS P items ow ops (oX ops.size p) s=some c->bs P items ow ops i o c=some L->R p c a w->(∀v U,R (fc p i) L (a.put o.dst v) U->K (a.put o.dst v) U)->Wp i K a w):
  ∀(g:Nat) (f:Array Bool) (sL:AS) (a:Act) (w:World),f.size=ops.size->Ex ops (fun j=>f.getD j true)->((List.range ops.size).filter fun j=>!f.getD j true).length<=g->dS P items ow ops (oX ops.size fun j=>f.getD j true) s=some sL->R (fun j=>f.getD j true) sL a w->
   uO ops Qn Wp g f a w:=by
 have r: ∀(f:Array Bool) (sL:AS) (a:Act) (w:World),(∀j,j<ops.size->f.getD j true=true)->dS P items ow ops (oX ops.size fun j=>f.getD j true) s=some sL->R (fun j=>f.getD j true) sL a w->Qn a w:=fun f sL a w h m x=>by
  unfold oX at m;rw[aiB.2 (fun j F=>h j (afE.1 F)),M]at m;injection m with m
  subst m;exact X _ a w h x
 have l: ∀f:Array Bool,f.size=ops.size->Region.ready .any ops f=[]-> ∀j,j<ops.size->f.getD j true=true:=fun f q x=>by
  rcases td (n:=ops.size) (p:=fun j=>f.getD j true)with h|⟨i,E,G,aa⟩
  ·exact h
  exfalso;have:i∈Region.ready .any ops f:=mem_ready.2 ⟨G,ops[i],by simp[E],fun e Z Y=>by
   grind [oF]⟩
  grind
 intro g
 induction g with
 |zero=>
  intro f sL a w q B hm m x;have h: ∀j,j<ops.size->f.getD j true=true:=fun j F=>by
   cases ac:f.getD j true with
   |true=>rfl
   |false=>
    have:j∈(List.range ops.size).filter fun j=>!f.getD j true:=ahG.2 ⟨afE.2 F,by grind⟩
    grind
  refine⟨?_,r f sL a w h m x⟩;grind [Region.ready]
 |succ g ih=>
  intro f sL a w q B hm m x;refine⟨fun H=>r f sL a w (l f q H) m x,fun i E=>?_⟩;obtain⟨W,o,S,D⟩:=mem_ready.1 E;have t:i<ops.size:=(ae4.1 S).1;have y:(fun j=>(f.setIfInBounds i true).getD j true)=fc (fun j=>f.getD j true) i:=by
   funext j;by_cases u:j=i
   ·subst u;simp[fc,q,t]
   rw[getD_set_ne true (agv u)];simp[fc,u]
  have C:Ex ops (fc (fun j=>f.getD j true) i):=EX B fun o' ab e Z Y=>by
   grind
  obtain⟨L,I⟩:=Wm N O Q M _ (fc (fun j=>f.getD j true) i) (aeJ _) C;obtain⟨sm,A,T⟩:=Ce N O B t W Q I;rw[m]at A;injection A with A
  subst A;unfold eK at T;rw[S]at T;have z:((List.range ops.size).filter fun j=>!(f.setIfInBounds i true).getD j true).length<=g:=by
   have V:((List.range ops.size).filter fun j=>!(f.setIfInBounds i true).getD j true)=oX ops.size fun j=>!fc (fun j=>f.getD j true) i j:=by rw[<- y];rfl
   rw[V];obtain⟨e1,e2⟩:=xS t (fun j=>!fc (fun j=>f.getD j true) i j) (by simp[fc]);have e3:oX ops.size (fc (fun j=>!fc (fun j=>f.getD j true) i j) i)=(List.range ops.size).filter fun j=>!f.getD j true:=ahu fun j _=>by
    grind [fc]
   grind
  grind
theorem tG (y:Qd P sep ops) (z:cz sep ops=true) {Q:Exit->Act->World->Prop} (R:(Nat->Bool)->AS->Act->World->Prop) (A:ND sep s) (u:dS P items ow ops (List.range ops.size) s=some b) (x: ∀p a w,(∀j,j<ops.size->p j=true)->R p b a w->Q .normal a w) (g: ∀(p:Nat->Bool) (i:Nat) (o:Oper) (c h:AS) (a:Act) (w:World) (K:Act->World->Prop),ops[i]?=some o->p i=false->Ex ops p/\Ex ops (fc p i)/\dS P items ow ops (oX ops.size p) s=some c->bs P items ow ops i o c=some h->R p c a w->(∀v t,R (fc p i) h (a.put o.dst v) t->K (a.put o.dst v) t)->if Region.wanted o (yielded ops a.tmps)then o.wp P a w K Q else K (a.put o.dst undef) w):
  ∀(f:Nat) (e:Array Bool) (sL:AS) (a:Act) (w:World),e.size=ops.size->Ex ops (fun j=>e.getD j true)->((List.range ops.size).filter fun j=>!e.getD j true).length<=f->dS P items ow ops (oX ops.size fun j=>e.getD j true) s=some sL->R (fun j=>e.getD j true) sL a w->
   wpAny P .any ops Q f e a w:=fun f e sL a w l m n q r=>by
 rw[<- Hz];refine pA y z R A u x (fun p i o c h a w K B l m n q r=>?_) f e sL a w l m n q r;have C:=g p i o c h a w K B l m n q r;grind [wpOp]
theorem Qt (o:l9 P items) (r:Qd P sep ops) (t:cz sep ops=true) {X:Nat->Prop} {Q:Exit->Act->World->Prop} (u:ND sep s) (n:dS P items ow ops (List.range ops.size) s=some b) (q: ∀a f,dP w e X b a f->Q .normal a f):
  ∀(l:Nat) (g:Array Bool) (sL:AS) (a:Act) (f:World),g.size=ops.size->Ex ops (fun j=>g.getD j true)->((List.range ops.size).filter fun j=>!g.getD j true).length<=l->dS P items ow ops (oX ops.size fun j=>g.getD j true) s=some sL->dP w e X sL a f->
   wpAny P .any ops Q l g a f:=
 tG r t (fun _ c a f=>dP w e X c a f) u n (fun _ a f _ m=>q a f m) (fun _ _ _ _ _ _ _ _ _ _ _ h m p=>jA (Q:=Q) o m h p)
theorem rS (y:P.follows .mixedOrders=true) (items:List (ar P)) (ow:List Nat) {id:Nat} (l:cz sep ops=true) (C: ∀x∈sep,szO P x.2.2≠some 1) (B:Tc sep s) (h:bM P (items.map ar.a) ow (aV ops ops.toList 0) (some s) (c .normal)):bv P (.region id ops true) c s:=by
 obtain⟨n,G,u⟩:=aO P (items.map ar.a) ow ops ops.toList 0 s (c .normal) h;intro p O X a w r;refine wp_region_any y ?_;have v:dS P (items.map ar.a) ow ops (List.range ops.size) s=some n:=by
  grind [List.range_eq_range',jb]
 have g:dP p O X s a {w with drawn:=w.drawn+1}:=by
  obtain⟨D,E,q,f,b⟩:=r;have e:fm w {w with drawn:=w.drawn+1}:=⟨rfl,rfl,rfl,aeJ _,fun _ _=>rfl⟩;have b:bz X q s a w:=b;exact⟨D,E,q,f.grow e,b.grow e⟩
 refine Qt (ar.ok items) (oE l C) l ⟨gL r,B⟩ v (Q:=fun e t F=> ∃m,c e m/\dP p O X m t F) (fun a w A=>⟨n,u,A⟩) ops.size (Array.replicate ops.size false) s a _ (by simp) ?_ ?_ ?_ g
 ·intro j o z I;have H:j<ops.size:=(ae4.1 z).1;simp_all
 ·grind
 have:oX ops.size (fun j=>(Array.replicate ops.size false).getD j true)=[]:=by
  simp_all[oX]
 rw[this];rfl
theorem rT (f:P.follows .mixedOrders=true) (items:List (ar P)) (ow:List Nat) {id:Nat} (e:cz [] ops=true) (h: ∀K:AS->Prop,(∀b,bv P p c b->K b)->bM P (items.map ar.a) ow (aV ops ops.toList 0) (some s) K):bv P (.seq (.region id ops true) p) c s:=
 aj (rS f items ow e (by simp) (fun x g=>by simp at g) (h _ fun _ h=>h))
theorem ou (f:P.follows .mixedOrders=true) (items:List (ar P)) (ow:List Nat) {id:Nat} (e:cz [] ops=true) (h: ∀K:AS->Prop,(∀b,c .normal b->K b)->bM P (items.map ar.a) ow (aV ops ops.toList 0) (some s) K):bv P (.region id ops true) c s:=
 rS f items ow e (by simp) (fun x g=>by simp at g) (h _ fun _ h=>h)
theorem kC (f:P.follows .mixedOrders=true) {id:Nat} {ops:Array Oper} (e:cz [] ops=true) (h: ∀K:AS->Prop,(∀b,bv P p c b->K b)->bM P [] [] (aV ops ops.toList 0) (some s) K):bv P (.seq (.region id ops true) p) c s:=rT f [] [] e h
theorem Kx (f:P.follows .mixedOrders=true) {id:Nat} {ops:Array Oper} (e:cz [] ops=true) (h: ∀K:AS->Prop,(∀b,c .normal b->K b)->bM P [] [] (aV ops ops.toList 0) (some s) K):bv P (.region id ops true) c s:=ou f [] [] e h
theorem PF {t n:Nat} (h:szO P t=some n) (e:n≠1) (b:(sep.all fun x=>x.2.2==t)=true): ∀x∈sep,szO P x.2.2≠some 1:=fun x c=>by
 have:=aeP.1 b x c;grind
def abj (a:Nat):TV->Bool
 | .one (.sl b _ _ _)=>b==a
 | .one (.ptr b _ _ _)=>b==a
 | .one (.p _)=>true
 | .one .junk=>true
 |_=>false
theorem Gj (h:(sep.all fun x=>match s.tmps[x.1]? with|some t=>abj x.2.1 t|none=>true)=true):Tc sep s:=fun x c t b=>by
 have:=aeP.1 h x c;rw[b]at this;simp only at this;unfold abj at this;split at this<;>first|(cases this;done)|trivial|exact beq_iff_eq.1 this
theorem Ae (sep:List (Nat×Nat×Nat)) (f:P.follows .mixedOrders=true) (items:List (ar P)) (ow:List Nat) {id:Nat} (e:cz sep ops=true) (j: ∀x∈sep,szO P x.2.2≠some 1) (g:Tc sep s) (h: ∀K:AS->Prop,(∀b,bv P p c b->K b)->bM P (items.map ar.a) ow (aV ops ops.toList 0) (some s) K):bv P (.seq (.region id ops true) p) c s:=
 aj (rS f items ow e j g (h _ fun _ h=>h))
end
end
section
def GV:PV->PV
 | .raw (.slice none 0 0)=> .sl []
 |x=>x
def GP:AV->AV
 | .p x=> .p (GV x)
 |x=>x
def zO (o:OObj):OObj:={o with elems:=o.elems.map (List.map GP)}
theorem aaO {x:PV} (h:bS e w x m):bS e w (GV x) m:=by
 unfold GV;split
 ·cases h;exact .nil none 0
 exact h
theorem aaN {H:OH} (h:q.rel o H e w m):(GP q).rel o H e w m:=by
 cases q with
 |p q=>exact aaO h
 |sl a r b len=>exact h
 |ptr a r i j=>exact h
 |fn=>exact h
 |junk=>exact h
section
variable {H:OH} {d:Nat}
def zH (H:OH) (d:Nat):OH:=aK H d ((H d).map zO)
theorem ya {a:Nat} (h:(zH H d a)[n]?=some g): ∃b,(H a)[n]?=some b/\((a=d/\g=zO b)\/g=b):=by
 unfold zH at h;grind [be,aU]
theorem XW {a:Nat} (h:(H a)[n]?=some g): ∃b,(zH H d a)[n]?=some b/\b.es=g.es/\b.elems.length=g.elems.length:=by
 unfold zH;grind [zO,be,aU]
theorem abp (X:Nat->Prop) (l:Rho):Xo X l (zH H d)=Xo X l H:=by
 funext b;apply propext;constructor
 ·rintro(h|⟨a,r,o,c,f,g⟩)
  ·exact .inl h
  obtain⟨j,e,_⟩:=ya f;exact .inr ⟨a,r,j,c,e,g⟩
 rintro(h|⟨a,r,o,c,f,g⟩)
 ·exact .inl h
 obtain⟨j,e,_⟩:=XW (d:=d) f;exact .inr ⟨a,r,j,c,e,g⟩
theorem Kl {x:AV} (h:x.rel o H e w m):x.rel o (zH H d) e w m:=by
 refine uR (fun x m y h=>?_) x m h;cases x with
 |fn=>cases y
 |p x=>exact h
 |junk=>trivial
 |sl a r z len=>
  obtain⟨f,l,q,u⟩:=h;obtain⟨n,g,s,t⟩:=XW (d:=d) l;exact⟨n,g,by omega,by grind⟩
 |ptr a r i j=>
  obtain⟨f,b,c,l,q,u,A⟩:=h;obtain⟨n,g,s,t⟩:=XW (d:=d) l;exact⟨n,b,c,g,q,by omega,by grind⟩
theorem aef (h:f.rel o H e w m):f.rel o (zH H d) e w m:=by
 have agg: ∀{g:List AV} {m:Value},dK o H e w g m->dK o (zH H d) e w g m:=fun{g m} ⟨vs,l,n,p⟩=>
  ⟨vs,l,n,fun j x r=>by grind [Kl]⟩
 cases f with
 |one x=>exact Kl (x:=x) h
 |agg g=>exact agg h
 |fn c g=>obtain⟨u,l,n⟩:=h;exact⟨u,agg l,n⟩
 |tup s=>
  obtain⟨vs,l,n,p⟩:=h;refine⟨vs,l,n,fun j b g q=>?_⟩;grind [Kl]
theorem XX {a:Nat} (h:objRel o H e w a n g):objRel o (zH H d) e w a n (zO g)/\objRel o (zH H d) e w a n g:=
 ⟨iO h rfl rfl (fun _ _ _=>rfl) fun _ _ _ _ _ h=>aaN (Kl h),dV h rfl (fun _ _ _=>rfl) fun _ _ _ _ _ h=>Kl h⟩
end
theorem io (d:Nat):bN s ⟨s.tmps,zH s.H d⟩:=by
 rintro L O X a w ⟨G,v,A,f,I⟩;refine⟨G,v,A,⟨f.keep,fun a r o h=>?_,fun a r D K o l b c E h u m n=>?_,fun a r o b c h m=>?_,f.bar,fun a r o h=>?_⟩,fun t x y=>?_⟩
 ·obtain⟨l,g,j⟩:=ya h;show objRel A (zH s.H d) (Xo X A (zH s.H d)) w a r o;rw[abp];rcases j with⟨_,rfl⟩|rfl
  ·exact(XX (f.objs a r l g)).1
  exact(XX (f.objs a r o g)).2
 ·obtain⟨p,g,_⟩:=ya h;obtain⟨J,j,_⟩:=ya u;exact f.inj a r D K p J b c E g j m n
 ·obtain⟨p,g,_⟩:=ya h;exact f.old a r p b c g m
 ·obtain⟨l,g,j⟩:=ya h;have:=f.self a r l g;rcases j with⟨_,rfl⟩|rfl
  ·intro e B x y;simp only[zO,aeL]at B;obtain⟨F,q,rfl⟩:=B;simp only[aeL]at y;obtain⟨C,z,rfl⟩:=y;have:=this F q C z;cases C<;>first|exact this|trivial
  omega
 grind [abp,aef]
theorem EE (k:Nat) (j:s.tmps[k]?=some (.raw (.slice none 0 0))):bN s ⟨s.tmps.set k (.one (.p (.sl []))),s.H⟩:=by
 rintro q O X a w ⟨m,n,l,b,g⟩;refine⟨m,by grind,l,b,fun t x c=>?_⟩;by_cases f:t=k
 ·subst f;obtain⟨v,o,h⟩:=g t _ j;have e:=(aeI.1 j).1;rw[afu e]at c;injection c with c
  subst c;have h:bS (Xo X l s.H) w (.raw (.slice none 0 0)) v:=h;cases h;exact⟨_,o,bS.nil none 0⟩
 grind
end
end Go.Proofs.YtalmoejhjceflaaGreat
