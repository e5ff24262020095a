/-
  Part 13 of a proof (walks and plain facts).
-/
import Derived.Test.YtalmoejhjceflaaGreatQ11
set_option linter.all false
set_option maxRecDepth 100000
set_option maxHeartbeats 64000000
namespace Go.Proofs.YtalmoejhjceflaaGreat
open Go.RowKit
variable {s b:AS} {c:Exit->AS->Prop} {n:Nat} {e:Nat->Bool} {f:Oper} {g:TV} {h:OObj} {j:Code}
section
section
variable {P:Program} {items:List (cG P)} {ow:List Nat} {ops:Array Oper} {s s1 s':AS} {H H':OH}
theorem J8 (h:noRefTV g=true):iA H g:=by
 have c: ∀x,gO x=true->gN H x:=fun x b=>by cases x<;>first|trivial|cases b
 cases g with
 |one x=>exact c x h
 |agg e=>simp only[noRefTV,acr]at h;exact fun x b=>c x (h x b)
 |fn f e=>simp only[noRefTV,acr]at h;exact fun x b=>c x (h x b)
 |tup l=>simp only[noRefTV,acr]at h;exact fun g j x b=>c x (h g j x b)
theorem Hy {d:Nat} (h:selfTV d g) (e:H d≠[]):iA H g:=by
 have c: ∀x,bH d x->gN H x:=fun x b=>by
  cases x with
  |sl a _ _ _=>have b:a=d:=b;subst b;exact e
  |ptr a _ _ _=>have b:a=d:=b;subst b;exact e
  |fn _ a _=>have j:a=d:=b.1;subst j;exact⟨e,b.2⟩
  |p x=>trivial
  |junk=>trivial
 cases g with
 |one x=>exact c x h
 |agg l=>exact fun x b=>c x (h x b)
 |fn f l=>exact fun x b=>c x (h x b)
 |tup n=>exact fun g m x b=>c x (h g m x b)
theorem AH (d:Nat) (t:TV):selfTV d (renTV d t):=by
 cases t with
 |one x=>exact dM d x
 |agg c=>intro x b;grind [dM]
 |fn f c=>intro x b;grind [dM]
 |tup g=>
  intro t e x b;grind [dM]
theorem CT {d:Nat} (h:noRefTV g=true):noRefTV (renTV d g)=true:=by
 have b: ∀x,gO x=true->gO (b6 d x)=true:=fun x e=>by cases x<;>first|rfl|cases e
 cases g with
 |one x=>exact b x h
 |agg c=>grind [noRefTV,renTV]
 |fn f c=>grind [noRefTV,renTV]
 |tup j=>
  grind [noRefTV,renTV]
theorem dX {a:Nat} (b: ∀e∈h.elems,∀x∈e,isPure x=true):selfO a h:=fun e c x f=>df (b e c x f)
theorem CQ {b:List (List AV)} (h:iR H g=some b): ∀e∈b,∀x∈e,isPure x=true:=by
 unfold iR at h;split at h
 ·injection h with h
  subst h;intro e c x f;simp only[acn]at c;obtain⟨j,_,rfl⟩:=c;simp only[acn]at f;obtain⟨l,_,rfl⟩:=f;rfl
 ·grind
 ·grind
 cases h
theorem GR {ev:Operand->Option TV} {n:Nat}: ∀(parts:List (Nat×Operand)) (i:Nat) (l:List (List AV)),sI ev n i parts=some l-> ∀e∈l,∀x∈e,isPure x=true
 |[],i,l,h=>by grind [sI]
 |(k,x)::b,i,l,h=>by
  simp only[sI]at h;split at h
  ·rename_i o m g f;split at h
   ·rename_i p;injection h with h
    subst h;intro e c y j;rcases acR.1 c with rfl|c
    ·grind
    exact GR b (i+1) m f e c y j
   cases h
  cases h
theorem Jy {i d:Nat} {ev:Operand->Option TV} {op:Op} {F:List OObj} (h:cB P items ow i d ev H op=some (g,F)):selfTV d g/\(F=[]->noRefTV g=true)/\ ∀o∈F,selfO d o:=by
 cases op<;>simp only[cB]at h<;>try cases h
 case box e x=>
  split at h
  ·split at h
   ·rename_i w;injection h with h
    injection h with j m
    subst j m;refine⟨rfl,fun h=>by simp at h,fun o b=>?_⟩;grind [dX]
   cases h
  cases h
 case alloc e=>
  split at h
  ·split at h
   ·injection h with h
    injection h with j m
    subst j m;refine⟨rfl,fun h=>by simp at h,fun o b=>?_⟩;simp at b;subst b;exact dX (fun e q x p=>by simp at q;subst q;simp at p;obtain⟨y,_,rfl⟩:=p;rfl)
   cases h
  cases h
 case makeSlice ty l c=>
  split at h
  ·split at h
   ·split at h
    ·injection h with h
     injection h with j m
     subst j m;refine⟨rfl,fun h=>by simp at h,fun o b=>?_⟩;simp at b;subst b;exact dX (fun e q x p=>by simp[aev]at q;rw[q.2]at p;simp at p;obtain⟨y,_,rfl⟩:=p;rfl)
    cases h
   cases h
  cases h
 case buildSlice ty n parts=>
  split at h
  ·split at h
   ·split at h
    ·rename_i l I;split at h
     ·split at h
      ·injection h with h
       injection h with j m
       subst j m;refine⟨rfl,fun h=>by simp at h,fun o b=>?_⟩;grind [dX,GR]
      injection h with h
      injection h with j m
      subst j m;exact⟨trivial,fun _=>rfl,fun o b=>by simp at b⟩
     cases h
    cases h
   cases h
  cases h
 case call c=>
  split at h
  ·split at h
   ·rename_i D G u v;split at h
    ·rename_i w;injection h with h
     injection h with j m
     subst j m;refine⟨AH _ _,fun A=>?_,fun o b=>?_⟩
     ·grind [List.map_eq_nil_iff,CT]
     simp only[acn]at b;obtain⟨E,_,rfl⟩:=b;intro e q x p;grind [renO,dM]
    cases h
   cases h
  ·split at h
   ·rename_i f r D G B u v;split at h
    ·rename_i w;injection h with h
     injection h with j m
     subst j m;refine⟨AH _ _,fun A=>?_,fun o b=>?_⟩
     ·grind [List.map_eq_nil_iff,CT]
     simp only[acn]at b;obtain⟨E,_,rfl⟩:=b;intro e q x p;grind [renO,dM]
    cases h
   cases h
  ·split at h
   ·split at h
    ·rename_i z e J p C;split at h
     ·split at h
      ·injection h with h
       injection h with j m
       subst j m;refine⟨rfl,fun h=>by simp at h,fun o b=>?_⟩;grind [Option.bind_eq_some_iff,dX,CQ]
      cases h
     cases h
    cases h
   cases h
  cases h
theorem mv {k:Nat->Nat->Bool} {x:AV} (h: ∀a r,H a≠[]->k a r=false->H' a≠[]) (b:gN H x):gN H' (aR k x):=by
 cases x with
 |sl a r e len=>
  simp only[aR];cases c:k a r with
  |true=>trivial
  |false=>exact h a r b c
 |ptr a r i j=>
  simp only[aR];cases c:k a r with
  |true=>trivial
  |false=>exact h a r b c
 |p x=>trivial
 |junk=>trivial
 |fn f a g=>
  simp only[aR];split
  ·trivial
  rename_i c;refine⟨?_,b.2⟩;cases g with
  |nil=>exact absurd rfl b.2
  |cons q l=>exact h a q.1 b.1 (by grind)
theorem xd {k:Nat->Nat->Bool} (h: ∀a r,H a≠[]->k a r=false->H' a≠[]) (e:iA H g):iA H' (aT k g):=by
 cases g with
 |one x=>exact mv h e
 |agg m=>intro y b;simp only[acn]at b;obtain⟨z,c,rfl⟩:=b;exact mv h (e z c)
 |fn f m=>intro y b;simp only[acn]at b;obtain⟨z,c,rfl⟩:=b;exact mv h (e z c)
 |tup o=>
  intro g l y b;simp only[acn]at l;obtain⟨n,j,rfl⟩:=l;simp only[acn]at b;obtain⟨z,c,rfl⟩:=b;exact mv h (e n j z c)
theorem uT {a:Nat} {l:List OObj} {o:OObj} (c: ∀o∈l,selfO a o) (b:selfO a h): ∀o∈l.set n h,selfO a o:=fun x e=>by
 grind
theorem uG {a i:Nat} {e g:List AV} (c:selfO a h) (l:h.elems[i]?=some e) (m: ∀x∈g,bH a x):selfO a {h with elems:=h.elems.set i (putCells e n g)}:=fun y f x b=>by
 rcases adG f with f|rfl
 ·exact c y f x b
 unfold putCells at b;simp only[adh]at b;rcases b with(b|b)|b
 ·exact c e (acd l) x (aef b)
 ·grind
 exact c e (acd l) x (aeH b)
theorem N0 (B:mZ s) {op:Op} {q:IF} (h:iv P s.ev s.H op=some q):(∀a r,s.H a≠[]->q.k a r=false->q.H a≠[])/\(∀a,∀o∈q.H a,selfO a o)/\iA q.H q.t:=by
 have w: ∀H,iA H TV.undef:=fun H t ht=>by simp at ht
 have l: ∀{a r:Nat} {o:OObj} {F:List OObj},(s.H a)[r]?=some o->F.length>=(s.H a).length->(∀o∈F,selfO a o)->(∀(b Y:Nat),s.H b≠[]->aF s.H a F b≠[])/\ ∀b,∀o∈aF s.H a F b,selfO b o:=fun{a r o F} u hlen hF=>by
  have V:0<(s.H a).length:=by grind
  refine⟨fun b _ O=>?_,fun b X G=>?_⟩
  ·grind [aS,aM]
  by_cases E:b=a
  ·grind [aS]
  rw[aM E]at G;exact B.2 b X G
 cases op<;>simp only[iv]at h<;>try cases h
 case store t ad x=>
  split at h
  ·rename_i a r i j n ab hn;split at h
   ·rename_i o u;have m:=B.2 a o (acd u);split at h
    ·rename_i e A;split at h
     ·rename_i I Y N len C;split at h
      ·rename_i K;subst K;split at h
       ·injection h with h
        subst h;obtain⟨D,J⟩:=l u (F:=(s.H I).set r {o with elems:=o.elems.set i (putCells e j [.sl I Y N len])}) (by simp) (uT (o:=o) (B.2 I) (uG m A (fun y g=>by simp at g;subst g;rfl)));grind
       cases h
      rename_i K;split at h
      ·rename_i ob hH;split at h
       ·rename_i L;injection h with h
        subst h;have Q:=L.2.2.2.2.2.2;simp only[acr]at Q;obtain⟨D,J⟩:=l u (F:=(s.H a).set r {o with elems:=o.elems.set i (putCells e j [.sl a (s.H a).length 0 len])}++[ob]) (by simp) (fun y g=>by
         rcases adh.1 g with g|g
         ·exact uT (o:=o) (B.2 a) (uG m A (fun y g=>by simp at g;subst g;rfl)) y g
         grind [dX])
        refine⟨fun b r O hk=>?_,fun b X G=>?_,w _⟩
        ·have E:b≠I:=by grind
         show aF _ I [] b≠[];rw[aM E];exact D b r O
        grind [aS,aM]
       cases h
      cases h
     ·rename_i f U C;split at h
      ·rename_i qs af;split at h
       ·rename_i L;injection h with h
        subst h;obtain⟨D,J⟩:=l u (F:=(s.H a).set r {o with elems:=o.elems.set i (putCells e j [.fn f a qs])}) (by simp) (uT (o:=o) (B.2 a) (uG m A (fun y g=>by simp at g;subst g;exact⟨rfl,aez L.2.2⟩)));grind
       cases h
      cases h
     ·rename_i v hv hv2 C;split at h
      ·rename_i U ae;split at h
       ·rename_i L;injection h with h
        subst h;have Q:=L.2.2;simp only[acr]at Q;obtain⟨D,J⟩:=l u (F:=(s.H a).set r {o with elems:=o.elems.set i (putCells e j U)}) (by simp) (uT (o:=o) (B.2 a) (uG m A (fun y g=>CV (Q y g))));grind
       cases h
      cases h
     cases h
    cases h
   cases h
  cases h
 case call c=>
  split at h
  ·split at h
   ·rename_i a r N len M e hs C ag;split at h
    ·rename_i o z sz aa u hz W ac;split at h
     ·injection h with h
      subst h;obtain⟨tx,_,hn⟩:=acG.1 C;have m:=B.2 a o (acd u);obtain⟨D,J⟩:=l u (F:=((s.H a).map (ns fun x y=>x==a&&y==r)).set r {o with elems:=o.elems++M}) (by simp) (fun y g=>by
       rcases adG g with g|rfl
       ·simp only[acn]at g;obtain⟨o2,S,rfl⟩:=g;intro e A x C;simp only[ns,acn]at A;obtain⟨e',R,rfl⟩:=A;simp only[acn]at C;obtain⟨Z,T,rfl⟩:=C;have:=B.2 a o2 S e' R Z T;cases Z with
        |sl b _ _ _=>simp only[aR];split;trivial;omega
        |ptr b _ _ _=>simp only[aR];split;trivial;omega
        |fn _ b _=>simp only[aR];split;trivial;omega
        |p x=>trivial
        |junk=>trivial
       intro e A x C;grind [df,CQ])
      refine⟨fun b r O _=>D b r O,J,?_⟩;exact D a r (by grind)
     cases h
    cases h
   cases h
  cases h
theorem DB {i:Nat} (g:mZ s) (h:be P items ow ops i f s=some s1):mZ s1:=by
 rw[bT]at h;obtain⟨out,c,h⟩:=acG.1 h;unfold dv at c;have j:iA s.H TV.undef:=fun t D=>by simp at D
 split at c
 ·unfold mB at c;split at c
  ·grind [Option.map_eq_some_iff,ck,nF,N2]
  split at c
  ·grind [Option.map_eq_some_iff,ck,nF,N3]
  split at c
  ·rename_i q C;injection c with c
   subst c;simp only[ck]at h;injection h with h;subst h
   obtain⟨u,v,w⟩:=N0 g C;refine nF ⟨fun t x m=>?_,v⟩ w;simp only[ach]at m;obtain⟨y,E,rfl⟩:=acf.1 m;exact xd u (g.1 t y E)
  split at c
  ·cases c
  rename_i d A;cases n:cB P items ow i d s.ev s.H f.op with
  |none=>rw[n]at c;cases c
  |some I=>
   obtain⟨t,F⟩:=I;rw[n]at c;obtain⟨f1,f2,f3⟩:=Jy n;cases F with
   |nil=>
    grind [OU,ck,nF,J8]
   |cons r l=>
    simp only[OU]at c;injection c with c
    subst c;simp only[ck,A]at h;split at h
    ·rename_i J;injection h with h
     subst h;refine nF ⟨fun k x m=>?_,fun b G e=>?_⟩ (Hy f1 (by simp[aS]))
     ·have:=g.1 k x m;have B: ∀a,s.H a≠[]->aF s.H d (r::l) a≠[]:=fun a p=>by grind [aM]
      have:=xd (H':=aF s.H d (r::l)) (k:=fun _ _=>false) (fun a _ p _=>B a p) this;grind [oJ]
     by_cases z:b=d
     ·grind [aS]
     simp only[aM z]at e;exact g.2 b G e
    cases h
 ·grind [ck,nF]
 grind
end
end
section
def noD:Op->Bool
 | .store ..=>false
 | .call {callee:= .builtin .append,..}=>false
 |_=>true
theorem Al {P:Program} {op:Op} (h:noD op=true): ∀e G,iv P e G op=none:=fun e G=>by
 cases op<;>simp only[iv]<;>try rfl
 case store=>cases h
 case call c=>
  obtain⟨callee,args,g⟩:=c;cases callee with
  |value f=>rfl
  |invoke r m=>rfl
  |builtin b=>cases b<;>first|rfl|cases h
def ld (acc:List Nat):List Edge->Nat
 |[]=>0
 |e::l=>if Region.binds .any e then 2^e.on|||(acc.getD e.on 0|||ld acc l)else ld acc l
def pz:List Oper->List Nat->List Nat
 |[],acc=>acc
 |o::l,acc=>pz l (acc++[ld acc o.after.toList])
def Tt (b:List (Nat×Nat×Nat)) (c e:Oper):Bool:=match c.op,e.op with
 | .load _ (.tmp p),.store t (.tmp q) _=>b.contains (p,q,t)&&c.guard.isNone&&e.guard.isNone
 |_,_=>false
def wt (f:List (Nat×Nat×Nat)) (e:Array Oper) (b c:Oper):Bool:=b.apart e c&&(pF b.op||pF c.op||(noD b.op&&noD c.op)||Tt f b c)
def Ho (c:List (Nat×Nat×Nat)) (b:Array Oper) (e:Oper) (m:Nat):List Oper->Nat->Bool
 |[],_=>true
 |oi::l,i=>(m.testBit i||wt c b oi e)&&Ho c b e m l (i+1)
def EJ (c:List (Nat×Nat×Nat)) (b:Array Oper) (A:List Nat):List Oper->Nat->Bool
 |[],_=>true
 |oj::l,j=>oj.after.all (fun e=>!Region.binds .any e||decide (e.on<j))&&Ho c b oj (A.getD j 0) (b.toList.take j) 0&&EJ c b A l (j+1)
def bZ (c:List (Nat×Nat×Nat)) (b:Array Oper):Bool:=EJ c b (pz b.toList []) b.toList 0&&b.toList.all fun o=>c.all fun x=>o.dst !=some x.1&&o.dst !=some x.2.1
def Fv (c:List (Nat×Nat×Nat)) (s:AS):Prop:= ∀x∈c,∀a r i j b g e f,s.tmps[x.1]?=some (.one (.ptr a r i j))->s.tmps[x.2.1]?=some (.one (.ptr b g e f))->b≠a
def Lu (b:List (Nat×Nat×Nat)) (s:AS):Prop:=mZ s/\Fv b s
def Nq (P:Program) (b:List (Nat×Nat×Nat)) (c:Array Oper):Prop:=(∀x∈b,i7 P x.2.2≠some 1)/\ ∀(j:Nat) o,c[j]?=some o-> ∀x∈b,o.dst≠some x.1/\o.dst≠some x.2.1
section
variable {ops:Array Oper} {sep:List (Nat×Nat×Nat)}
theorem Cj: ∀(l:List Oper) (acc:List Nat),(pz l acc).length=acc.length+l.length/\(∀k,k<acc.length->(pz l acc)[k]?=acc[k]?)/\
  ∀(j:Nat) o,l[j]?=some o->(pz l acc)[acc.length+j]?=some (ld ((pz l acc).take (acc.length+j)) o.after.toList)
 |[],acc=>⟨by simp[pz],fun k _=>rfl,fun j o h=>by simp at h⟩
 |o::l,acc=>by
  obtain⟨e,c,f⟩:=Cj l (acc++[ld acc o.after.toList]);simp only[pz];refine⟨by grind,fun k g=>by grind,fun j m b=>?_⟩;cases j with
  |zero=>
   simp at b;subst b;rw[ac9,c acc.length (by simp)];have:(pz l (acc++[ld acc o.after.toList])).take acc.length=acc:=by
    apply acz;grind
   grind
  |succ j=>
   grind
theorem pT {acc:List Nat} {i:Nat}: ∀{l:List Edge},(ld acc l).testBit i=true-> ∃e∈l,Region.binds .any e=true/\(e.on=i\/(acc.getD e.on 0).testBit i=true)
 |[],h=>by simp[ld]at h
 |e::l,h=>by
  simp only[ld]at h;split at h
  ·rename_i g;simp only[agx,aeg,afI,decide_eq_true_eq]at h;rcases h with h|h|h
   ·grind
   ·grind
   obtain⟨b,c,f⟩:=pT h;grind
  obtain⟨b,c,f⟩:=pT h;grind
def Dr (ops:Array Oper) (p:Nat->Bool):Prop:= ∀(j:Nat) o,ops[j]?=some o->p j=true-> ∀e∈o.after,Region.binds .any e=true->p e.on=true
theorem jh (q:Dr ops e) {i:Nat}: ∀(n j:Nat),j<n->j<ops.size->e j=true->((pz ops.toList []).getD j 0).testBit i=true->e i=true:=by
 intro n
 induction n with
 |zero=>omega
 |succ n u=>
  intro j _ f g c;obtain⟨s,_,l⟩:=Cj ops.toList [];have o:ops.toList[j]?=some ops[j]:=by simp[f]
  have:=l j _ o;simp only[aei,acQ]at this;rw[acm,this,ads]at c;obtain⟨b,t,m,h⟩:=pT c;have r:=q j ops[j] (by simp[f]) g b (by grind) m;grind
theorem AM {f:Oper} {m:Nat}: ∀{l:List Oper} {c:Nat},Ho sep ops f m l c=true-> ∀(k:Nat) b,l[k]?=some b->m.testBit (c+k)=true\/wt sep ops b f=true
 |[],c,_,k,b,h=>by simp at h
 |o::l,c,h,k,b,e=>by
  simp only[Ho,acN,aeg]at h;cases k with
  |zero=>grind
  |succ k=>
   simp at e;have:=AM h.2 k b e;grind
theorem qu {A:List Nat}: ∀{l:List Oper} {b:Nat},EJ sep ops A l b=true-> ∀(k:Nat) c,l[k]?=some c->(∀e∈c.after,Region.binds .any e=true->e.on<b+k)/\Ho sep ops c (A.getD (b+k) 0) (ops.toList.take (b+k)) 0=true
 |[],b,_,k,c,h=>by simp at h
 |o::l,b,h,k,c,f=>by
  simp only[EJ,acN]at h;cases k with
  |zero=>
   grind [Array.all_eq_true_iff_forall_mem]
  |succ k=>
   simp at f;have:=qu h.2 k c f;grind
theorem nn (h:bZ sep ops=true):(∀(j:Nat) o,ops[j]?=some o-> ∀e∈o.after,Region.binds .any e=true->e.on<j)/\
  ∀(i j:Nat) b c,i<j->ops[i]?=some b->ops[j]?=some c->((pz ops.toList []).getD j 0).testBit i=true\/wt sep ops b c=true:=by
 unfold bZ at h;rw[acN]at h
 replace h:=h.1
 refine⟨fun j o p e g f=>?_,fun i j b c l m n=>?_⟩
 ·have:=(qu h j o (by grind)).1 e g f;omega
 have:=(qu h j c (by grind)).2;rw[acQ]at this;have:=AM this i b (by grind);grind
variable {P:Program} {items:List (cG P)} {ow:List Nat}
noncomputable def dB (P:Program) (items:List (cG P)) (ow:List Nat) (ops:Array Oper) (i:Nat) (s:AS):Option AS:=match ops[i]? with
 |some o=>be P items ow ops i o s
 |none=>none
noncomputable def cY (P:Program) (items:List (cG P)) (ow:List Nat) (ops:Array Oper):List Nat->AS->Option AS
 |[],s=>some s
 |i::l,s=>(dB P items ow ops i s).bind (cY P items ow ops l)
theorem i6 (l m:List Nat) (s:AS):cY P items ow ops (l++m) s=(cY P items ow ops l s).bind (cY P items ow ops m):=by
 induction l generalizing s with
 |nil=>rfl
 |cons i l b=>
  simp only[ad9,cY];cases dB P items ow ops i s with
  |none=>rfl
  |some c=>exact b c
theorem lZ (h:bZ sep ops=true) (b: ∀x∈sep,i7 P x.2.2≠some 1):Nq P sep ops:=⟨b,fun j o c x e=>by
 unfold bZ at h;grind⟩
theorem EE {s:AS} {d:Option Tmp} (o:Fv sep s) (n: ∀x∈sep,d≠some x.1/\d≠some x.2.1):Fv sep (s.put d g):=fun x h a r i j b u p q l m=>by
 rw[nG s d g x.1 (fun e f c=>(n x h).1 (by rw[f,c]))]at l;rw[nG s d g x.2.1 (fun e f c=>(n x h).2 (by rw[f,c]))]at m;exact o x h a r i j b u p q l m
theorem GK {k:Nat->Nat->Bool} {a i j:Nat} (h:aT k g= .one (.ptr a n i j)):g= .one (.ptr a n i j):=by
 cases g with
 |one x=>cases x<;>simp only[aT,aR]at h<;>(try split at h)<;>simp_all
 |agg b=>cases h
 |fn f b=>cases h
 |tup c=>cases h
theorem R7 {h:List TV} {H l:OH} {k:Nat->Nat->Bool} (o:Fv sep ⟨h,H⟩):Fv sep ⟨h.map (aT k),l⟩:=fun x p a r i j b t q s f g=>by
 simp only[ach]at f g;obtain⟨t1,c,m⟩:=acf.1 f;obtain⟨t2,e,n⟩:=acf.1 g;rw[GK m]at c;rw[GK n]at e;exact o x p a r i j b t q s c e
theorem GU (j:Nq P sep ops) {i:Nat} (n:ops[i]?=some f) (c:Lu sep s) (h:be P items ow ops i f s=some b):Lu sep b:=by
 refine⟨DB c.1 h,?_⟩;have g:=j.2 i f n;rw[bT]at h;obtain⟨out,_,h⟩:=acG.1 h;cases out with
 |val t=>simp only[ck]at h;injection h with h;subst h;exact EE c.2 g
 |new t p l=>
  simp only[ck]at h;split at h
  ·rename_i e m;split at h
   ·injection h with h;subst h
    rw[<- m];exact EE (s:=⟨s.tmps,_⟩) c.2 g
   cases h
  cases h
 |wr q=>simp only[ck]at h;injection h with h;subst h;exact EE (R7 (H:=s.H) c.2) g
theorem O9 (c:Nq P sep ops) {l:List Nat} (e:Lu sep s) (h:cY P items ow ops l s=some b):Lu sep b:=by
 induction l generalizing s with
 |nil=>grind [cY]
 |cons i l f=>
  grind [cY,Option.bind_eq_some_iff,dB,GU]
theorem Ou (b:List TV):b.map (aT fun _ _=>false)=b:=by
 conv=>rhs;rw[<- adL b]
 grind [List.map_congr_left,oJ]
theorem KG {t:TypeId} {f x:Operand} {q:IF} (l:i7 P t≠some 1) (h:iv P s.ev s.H (.store t f x)=some q): ∃b r i j F,s.ev f=some (.one (.ptr b r i j))/\q=⟨.undef,aF s.H b F,fun _ _=>false⟩:=by
 simp only[iv]at h;split at h
 ·rename_i a r i j n g c;have m:n≠1:=fun e=>l (by rw[c,e])
  split at h
  ·grind
  cases h
 cases h
theorem Tu (T:Nq P sep ops) {i:Nat} {u:Oper} {N:AS} (v:Tt sep f u=true) (X:Lu sep s) (E:mJ ops u f.dst) (G:mJ ops f u.dst) (V: ∀k,f.dst=some k->u.dst≠some k) (l:be P items ow ops i f s=some b) (m:be P items ow ops n u b=some N): ∃O,be P items ow ops n u s=some O/\be P items ow ops i f O=some N:=by
 unfold Tt at v;split at v
 ·rename_i ty p t q x B C;simp only[acN]at v;obtain⟨⟨J,S⟩,M⟩:=v;have J:(p,q,t)∈sep:=by grind
  have S:f.guard=none:=by simp_all
  have M:u.guard=none:=by simp_all
  rw[bT]at l m;obtain⟨ui,w,l⟩:=acG.1 l;obtain⟨uj,o,m⟩:=acG.1 m;have Q: ∀s,dv P items ow ops i f s=(bY P s.ev s.H f.op).map .val:=fun s=>by
   simp_all[dv,gate,mB,pF,Bw]
  rw[Q]at w;obtain⟨tv,L,rfl⟩:=acf.1 w;simp only[ck]at l;injection l with l
  subst l;rw[dj E]at o;have h:=o;unfold dv gate mB at h;rw[M]at h;simp only at h;rw[C]at h;simp only[pF,Bw,ada,if_false]at h;split at h
  ·rename_i qq K;injection h with h
   subst h;obtain⟨c,r',Z,j',F,U,rfl⟩:=KG (T.1 _ J) K;simp only[ck]at m;injection m with m
   subst m;refine⟨_,by rw[bT,o];rfl,?_⟩;rw[bT,dj G,Q];simp only[Ou];have e:bY P (AS.ev ⟨s.tmps,aF s.H c F⟩) (aF s.H c F) f.op=some tv:=by
    rw[<- L];refine(zF (fun y A=>?_) (fun y A tt Y=>?_)).symm
    ·rfl
    rw[B]at A;have A:y= .tmp p:=by grind [Op.operands]
    subst A;cases tt with
    |one z=>
     cases z with
     |ptr a r i0 j0=>
      have:=X.2 _ J a r i0 j0 c r' Z j' Y U;exact aM (fun D=>this D.symm)
     |sl a r aa len=>grind [bY]
     |p y=>trivial
     |junk=>trivial
     |fn=>grind [bY]
    |agg R=>grind [bY]
    |fn g R=>grind [bY]
    |tup ts=>grind [bY]
   rw[e];simp only[adB,aeb,ck];rw[il _ _ _ (fun k W I=>V k I (by rw[W]))]
   congr 2
   cases f.dst<;>rfl
  grind [cB,OU]
 cases v
theorem OZ (x:Nq P sep ops) {i:Nat} {m:Oper} {v:AS} (l:wt sep ops f m=true) (u:Lu sep s) (r:be P items ow ops i f s=some b) (t:be P items ow ops n m b=some v):
  ∃w,be P items ow ops n m s=some w/\be P items ow ops i f w=some v:=by
 unfold wt at l;simp only[acN,aeg]at l;obtain⟨y,c⟩:=l;obtain⟨o,p,q⟩:=Oper.apart_spec y;rcases c with c|c
 case inr=>exact Tu x c u (fun e g=>o e g) (fun e g=>q e g) (fun k h=>p k h) r t
 refine Pp u.1 (fun e g=>o e g) (fun e g=>q e g) (fun k h=>p k h) ?_ r t;rcases c with(c|c)|c
 ·exact .inl c
 ·exact .inr (.inl c)
 exact .inr (.inr ⟨Al c.1,Al c.2⟩)
theorem QU (g:Nq P sep ops) {i:Nat} {t:Oper} (p:ops[i]?=some t): ∀{l:List Nat} {s c:AS},Lu sep s->(∀j∈l,∃n,ops[j]?=some n/\wt sep ops t n=true)->cY P items ow ops (i::l) s=some c->
  ∃o,cY P items ow ops l s=some o/\dB P items ow ops i o=some c
 |[],s,c,_,_,h=>by
  grind [cY,Option.bind_eq_some_iff]
 |j::l,s,c,r,q,h=>by
  simp only[cY]at h;obtain⟨B,e,h⟩:=acG.1 h;obtain⟨C,f,y⟩:=acG.1 h;obtain⟨n,b,v⟩:=q j (by simp);unfold dB at e f;rw[p]at e;rw[b]at f;obtain⟨t1,u,x⟩:=OZ g v r e f;have w:cY P items ow ops (i::l) t1=some c:=by
   grind [cY,dB]
  obtain⟨o,z,A⟩:=QU g p (GU g b r u) (fun j m=>q j (by simp[m])) w;grind [cY,dB]
def mU (n:Nat) (p:Nat->Bool):List Nat:=(List.range n).filter p
def dH (p:Nat->Bool) (i:Nat):Nat->Bool:=fun j=>j==i||p j
theorem wF {i:Nat} (f:i<n) (p:Nat->Bool) (b:p i=false):
  mU n p=(List.range i).filter p++(List.range' (i+1) (n-i-1)).filter p/\mU n (dH p i)=(List.range i).filter p++i::(List.range' (i+1) (n-i-1)).filter p:=by
 have c:List.range n=List.range i++i::List.range' (i+1) (n-i-1):=by
  have e:=ac7 (s:=0) (m:=i) (n:=n-i-1+1);grind [List.range'_succ,List.range_eq_range']
 unfold mU;rw[c];simp only[afe,List.filter_cons,b];grind [dH,List.filter_congr]
theorem A3 (g:Nq P sep ops) (B:bZ sep ops=true) (A:Dr ops e) {i:Nat} (l:i<ops.size) (y:e i=false) (w:Lu sep s) (h:cY P items ow ops (mU ops.size (dH e i)) s=some b):
  ∃f,cY P items ow ops (mU ops.size e) s=some f/\dB P items ow ops i f=some b:=by
 obtain⟨z,m⟩:=wF l e y;rw[m,i6]at h;obtain⟨E,n,o⟩:=acG.1 h;have x:ops[i]?=some ops[i]:=by simp[l]
 obtain⟨f,C,D⟩:=QU g x (O9 g w n) (fun j q=>by
  obtain⟨c,r⟩:=aeA.1 q;obtain⟨t,u⟩:=List.mem_range'_1.1 c;have v:j<ops.size:=by omega
  grind [nn,jh]) o
 grind [i6]
theorem DN (f:Dr ops e) {i:Nat} (h: ∀o,ops[i]?=some o-> ∀b∈o.after,Region.binds .any b=true->e b.on=true):Dr ops (dH e i):=fun j o m n b g c=>by
 by_cases l:j=i
 ·grind [dH]
 have:e j=true:=by grind [dH]
 simp[dH,f j o m this b g c]
theorem rH {n:Nat} {p:Nat->Bool}:(∀j,j<n->p j=true)\/ ∃i,i<n/\p i=false/\ ∀j,j<i->p j=true:=by
 by_cases h: ∃i,i<n/\p i=false
 ·grind [bN]
 grind
theorem Ts (E:Nq P sep ops) (u:bZ sep ops=true) (G:Lu sep s) (D:cY P items ow ops (List.range ops.size) s=some b): ∀(m:Nat) (p:Nat->Bool),((List.range ops.size).filter fun j=>!p j).length<=m->Dr ops p-> ∃c,cY P items ow ops (mU ops.size p) s=some c:=by
 intro m
 induction m with
 |zero=>
  intro p x _;have f: ∀j,j<ops.size->p j=true:=fun j F=>by
   simp_all
  grind [mU,List.filter_eq_self]
 |succ m H=>
  intro p x r;rcases rH (n:=ops.size) (p:=p)with f|⟨i,w,z,h⟩
  ·grind [mU,List.filter_eq_self]
  have t:Dr ops (dH p i):=DN r fun o y e v q=>h _ ((nn u).1 i o y e v q)
  have g:((List.range ops.size).filter fun j=>!dH p i j).length<=m:=by
   have l:((List.range ops.size).filter fun j=>!p j).length=((List.range ops.size).filter fun j=>!dH p i j).length+1:=by
    obtain⟨A,B⟩:=wF w (fun j=>!dH p i j) (by simp[dH]);have C:mU ops.size (dH (fun j=>!dH p i j) i)=(List.range ops.size).filter fun j=>!p j:=aeW fun j _=>by
     grind [dH]
    grind [mU]
   omega
  grind [A3]
theorem gJ: ∀(l:List Oper) (k:Nat) (s:AS),(∀(j:Nat) o,l[j]?=some o->ops[k+j]?=some o)->gB P items ow ops (l.zipIdx k) s=cY P items ow ops (List.range' k l.length) s
 |[],k,s,_=>rfl
 |o::l,k,s,h=>by
  simp only[adQ,gB,acC,acW,cY];have b:ops[k]?=some o:=by have:=h 0 o rfl;omega
  unfold dB;rw[b];simp only;cases be P items ow ops k o s with
  |none=>rfl
  |some c=>
   simp only[aeb];exact gJ l (k+1) c (fun j o e=>by have:=h (j+1) o (by grind);grind)
def tI (ops:Array Oper) (Qn:Act->World->Prop) (Wp:Nat->(Act->World->Prop)->Act->World->Prop):Nat->Array Bool->Act->World->Prop
 |0,b,a,w=>Region.ready .any ops b=[]/\Qn a w
 |f+1,b,a,w=>(Region.ready .any ops b=[]->Qn a w)/\ ∀i∈Region.ready .any ops b,Wp i (tI ops Qn Wp f (b.setIfInBounds i true)) a w
theorem FV {Q:Exit->Act->World->Prop}: ∀f,tI ops (Q .normal) (fun i K a w=>wpOp P ops Q i K a w) f=wpAny P .any ops Q f
 |0=>rfl
 |f+1=>by
  funext l a w;simp only[tI,wpAny,FV f]
theorem og (N:Nq P sep ops) (O:bZ sep ops=true) {Qn:Act->World->Prop} {Wp:Nat->(Act->World->Prop)->Act->World->Prop} (R:(Nat->Bool)->AS->Act->World->Prop) (Q:Lu sep s) (M:cY P items ow ops (List.range ops.size) s=some b) (X: ∀p a w,(∀j,j<ops.size->p j=true)->R p b a w->Qn a w) (J: ∀(p:Nat->Bool) (i:Nat) (o:Oper) (c L:AS) (a:Act) (w:World) (K:Act->World->Prop),ops[i]?=some o->p i=false->Dr ops p/\Dr ops (dH p i)/\cY P items ow ops (mU ops.size p) s=some c->be P items ow ops i o c=some L->R p c a w->(∀v U,R (dH p i) L (a.put o.dst v) U->K (a.put o.dst v) U)->Wp i K a w):
  ∀(g:Nat) (f:Array Bool) (sL:AS) (a:Act) (w:World),f.size=ops.size->Dr ops (fun j=>f.getD j true)->((List.range ops.size).filter fun j=>!f.getD j true).length<=g->cY P items ow ops (mU ops.size fun j=>f.getD j true) s=some sL->R (fun j=>f.getD j true) sL a w->
   tI ops Qn Wp g f a w:=by
 have r: ∀(f:Array Bool) (sL:AS) (a:Act) (w:World),(∀j,j<ops.size->f.getD j true=true)->cY P items ow ops (mU ops.size fun j=>f.getD j true) s=some sL->R (fun j=>f.getD j true) sL a w->Qn a w:=fun f sL a w h m x=>by
  unfold mU at m;rw[agz.2 (fun j F=>h j (acV.1 F)),M]at m;injection m with m
  subst m;exact X _ a w h x
 have l: ∀f:Array Bool,f.size=ops.size->Region.ready .any ops f=[]-> ∀j,j<ops.size->f.getD j true=true:=fun f q x=>by
  rcases rH (n:=ops.size) (p:=fun j=>f.getD j true)with h|⟨i,E,G,aa⟩
  ·exact h
  exfalso;have:i∈Region.ready .any ops f:=mem_ready.2 ⟨G,ops[i],by simp[E],fun e Z Y=>by
   grind [nn]⟩
  grind
 intro g
 induction g with
 |zero=>
  intro f sL a w q B hm m x;have h: ∀j,j<ops.size->f.getD j true=true:=fun j F=>by
   cases ac:f.getD j true with
   |true=>rfl
   |false=>
    have:j∈(List.range ops.size).filter fun j=>!f.getD j true:=aeA.2 ⟨acV.2 F,by grind⟩
    grind
  refine⟨?_,r f sL a w h m x⟩;grind [Region.ready]
 |succ g ih=>
  intro f sL a w q B hm m x;refine⟨fun H=>r f sL a w (l f q H) m x,fun i E=>?_⟩;obtain⟨W,o,S,D⟩:=mem_ready.1 E;have t:i<ops.size:=(acB.1 S).1;have y:(fun j=>(f.setIfInBounds i true).getD j true)=dH (fun j=>f.getD j true) i:=by
   funext j;by_cases u:j=i
   ·subst u;simp[dH,q,t]
   rw[getD_set_ne true (aed u)];simp[dH,u]
  have C:Dr ops (dH (fun j=>f.getD j true) i):=DN B fun o' ab e Z Y=>by
   grind
  obtain⟨L,I⟩:=Ts N O Q M _ (dH (fun j=>f.getD j true) i) (acs _) C;obtain⟨sm,A,T⟩:=A3 N O B t W Q I;rw[m]at A;injection A with A
  subst A;unfold dB at T;rw[S]at T;have z:((List.range ops.size).filter fun j=>!(f.setIfInBounds i true).getD j true).length<=g:=by
   have V:((List.range ops.size).filter fun j=>!(f.setIfInBounds i true).getD j true)=mU ops.size fun j=>!dH (fun j=>f.getD j true) i j:=by rw[<- y];rfl
   rw[V];obtain⟨e1,e2⟩:=wF t (fun j=>!dH (fun j=>f.getD j true) i j) (by simp[dH]);have e3:mU ops.size (dH (fun j=>!dH (fun j=>f.getD j true) i j) i)=(List.range ops.size).filter fun j=>!f.getD j true:=aeW fun j _=>by
    grind [dH]
   grind
  grind
theorem oc (y:Nq P sep ops) (z:bZ sep ops=true) {Q:Exit->Act->World->Prop} (R:(Nat->Bool)->AS->Act->World->Prop) (A:Lu sep s) (u:cY P items ow ops (List.range ops.size) s=some b) (x: ∀p a w,(∀j,j<ops.size->p j=true)->R p b a w->Q .normal a w) (g: ∀(p:Nat->Bool) (i:Nat) (o:Oper) (c h:AS) (a:Act) (w:World) (K:Act->World->Prop),ops[i]?=some o->p i=false->Dr ops p/\Dr ops (dH p i)/\cY P items ow ops (mU ops.size p) s=some c->be P items ow ops i o c=some h->R p c a w->(∀v t,R (dH p i) h (a.put o.dst v) t->K (a.put o.dst v) t)->if Region.wanted o (yielded ops a.tmps)then o.wp P a w K Q else K (a.put o.dst undef) w):
  ∀(f:Nat) (e:Array Bool) (sL:AS) (a:Act) (w:World),e.size=ops.size->Dr ops (fun j=>e.getD j true)->((List.range ops.size).filter fun j=>!e.getD j true).length<=f->cY P items ow ops (mU ops.size fun j=>e.getD j true) s=some sL->R (fun j=>e.getD j true) sL a w->
   wpAny P .any ops Q f e a w:=fun f e sL a w l m n q r=>by
 rw[<- FV];refine og y z R A u x (fun p i o c h a w K B l m n q r=>?_) f e sL a w l m n q r;have C:=g p i o c h a w K B l m n q r;grind [wpOp]
theorem NF (n:iJ P items) (q:Nq P sep ops) (r:bZ sep ops=true) {l:World} {O X:Nat->Prop} {Q:Exit->Act->World->Prop} (t:Lu sep s) (m:cY P items ow ops (List.range ops.size) s=some b) (p: ∀a w,dq l O X b a w->Q .normal a w):
  ∀(f:Nat) (e:Array Bool) (sL:AS) (a:Act) (w:World),e.size=ops.size->Dr ops (fun j=>e.getD j true)->((List.range ops.size).filter fun j=>!e.getD j true).length<=f->cY P items ow ops (mU ops.size fun j=>e.getD j true) s=some sL->dq l O X sL a w->
   wpAny P .any ops Q f e a w:=
 oc q r (fun _ c a w=>dq l O X c a w) t m (fun _ a w _ g=>p a w g) (fun _ _ _ _ _ _ _ _ _ _ _ h g o=>jT (Q:=Q) n g h o)
theorem qC (y:P.follows .mixedOrders=true) (items:List (aq P)) (ow:List Nat) {id:Nat} (l:bZ sep ops=true) (C: ∀x∈sep,i7 P x.2.2≠some 1) (B:Fv sep s) (h:aY P (items.map aq.a) ow (aK ops ops.toList 0) (some s) (c .normal)):bA P (.region id ops true) c s:=by
 obtain⟨n,G,u⟩:=aP P (items.map aq.a) ow ops ops.toList 0 s (c .normal) h;intro p O X a w r;refine wp_region_any y ?_;have v:cY P (items.map aq.a) ow ops (List.range ops.size) s=some n:=by
  grind [List.range_eq_range',gJ]
 have g:dq p O X s a {w with drawn:=w.drawn+1}:=by
  obtain⟨D,E,q,f,b⟩:=r;have e:Ext w {w with drawn:=w.drawn+1}:=⟨rfl,rfl,rfl,acs _,fun _ _=>rfl⟩;have b:bo X q s a w:=b;exact⟨D,E,q,f.grow e,b.grow e⟩
 refine NF (aq.ok items) (lZ l C) l ⟨fd r,B⟩ v (Q:=fun e t F=> ∃m,c e m/\dq p O X m t F) (fun a w A=>⟨n,u,A⟩) ops.size (Array.replicate ops.size false) s a _ (by simp) ?_ ?_ ?_ g
 ·intro j o z I;have H:j<ops.size:=(acB.1 z).1;simp_all
 ·grind
 have:mU ops.size (fun j=>(Array.replicate ops.size false).getD j true)=[]:=by
  simp_all[mU]
 rw[this];rfl
theorem vI (f:P.follows .mixedOrders=true) (items:List (aq P)) (ow:List Nat) {id:Nat} (e:bZ [] ops=true) (h: ∀K:AS->Prop,(∀b,bA P j c b->K b)->aY P (items.map aq.a) ow (aK ops ops.toList 0) (some s) K):bA P (.seq (.region id ops true) j) c s:=
 ai (qC f items ow e (by simp) (fun x g=>by simp at g) (h _ fun _ h=>h))
theorem vH (f:P.follows .mixedOrders=true) (items:List (aq P)) (ow:List Nat) {id:Nat} (e:bZ [] ops=true) (h: ∀K:AS->Prop,(∀b,c .normal b->K b)->aY P (items.map aq.a) ow (aK ops ops.toList 0) (some s) K):bA P (.region id ops true) c s:=
 qC f items ow e (by simp) (fun x g=>by simp at g) (h _ fun _ h=>h)
theorem lP (f:P.follows .mixedOrders=true) {id:Nat} {ops:Array Oper} (e:bZ [] ops=true) (h: ∀K:AS->Prop,(∀b,bA P j c b->K b)->aY P [] [] (aK ops ops.toList 0) (some s) K):bA P (.seq (.region id ops true) j) c s:=vI f [] [] e h
theorem IP (f:P.follows .mixedOrders=true) {id:Nat} {ops:Array Oper} (e:bZ [] ops=true) (h: ∀K:AS->Prop,(∀b,c .normal b->K b)->aY P [] [] (aK ops ops.toList 0) (some s) K):bA P (.region id ops true) c s:=vH f [] [] e h
theorem yN (sep:List (Nat×Nat×Nat)) (f:P.follows .mixedOrders=true) (items:List (aq P)) (ow:List Nat) {id:Nat} (e:bZ sep ops=true) (l: ∀x∈sep,i7 P x.2.2≠some 1) (g:Fv sep s) (h: ∀K:AS->Prop,(∀b,bA P j c b->K b)->aY P (items.map aq.a) ow (aK ops ops.toList 0) (some s) K):bA P (.seq (.region id ops true) j) c s:=
 ai (qC f items ow e l g (h _ fun _ h=>h))
end
end
end Go.Proofs.YtalmoejhjceflaaGreat
