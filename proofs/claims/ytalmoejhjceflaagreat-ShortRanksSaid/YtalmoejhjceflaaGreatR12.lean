/-
  Part 13 of a proof (walks and plain facts).
-/
import Derived.Test.YtalmoejhjceflaaGreatR11
set_option linter.all false
set_option maxRecDepth 100000
set_option maxHeartbeats 64000000
namespace Go.Proofs.YtalmoejhjceflaaGreat
open Go.RowKit
variable {b:TV} {c:OObj}
section
section
variable {P:Program} {items:List (df P)} {ow:List Nat} {ops:Array Oper} {s s1 s':AS} {H H':OH}
theorem GQ (h:noRefTV b=true):fX H b:=by
 have e: ∀x,fm x=true->fj H x:=fun x c=>by cases x<;>first|trivial|cases c
 cases b with
 |one x=>exact e x h
 |agg g=>simp only[noRefTV,aat]at h;exact fun x c=>e x (h x c)
 |fn f g=>simp only[noRefTV,aat]at h;exact fun x c=>e x (h x c)
 |tup l=>simp only[noRefTV,aat]at h;exact fun b j x c=>e x (h b j x c)
theorem Er {d:Nat} (h:selfTV d b) (g:H d≠[]):fX H b:=by
 have e: ∀x,bs d x->fj H x:=fun x c=>by
  cases x with
  |sl a _ _ _=>have c:a=d:=c;subst c;exact g
  |ptr a _ _ _=>have c:a=d:=c;subst c;exact g
  |fn _ a _=>have j:a=d:=c.1;subst j;exact⟨g,c.2⟩
  |p x=>trivial
  |junk=>trivial
 cases b with
 |one x=>exact e x h
 |agg l=>exact fun x c=>e x (h x c)
 |fn f l=>exact fun x c=>e x (h x c)
 |tup n=>exact fun b m x c=>e x (h b m x c)
theorem xv (d:Nat) (t:TV):selfTV d (renTV d t):=by
 cases t with
 |one x=>exact dB d x
 |agg c=>intro x b;grind [dB]
 |fn f c=>intro x b;grind [dB]
 |tup g=>
  intro t e x b;grind [dB]
theorem zJ {d:Nat} (h:noRefTV b=true):noRefTV (renTV d b)=true:=by
 have c: ∀x,fm x=true->fm (cb d x)=true:=fun x g=>by cases x<;>first|rfl|cases g
 cases b with
 |one x=>exact c x h
 |agg e=>grind [noRefTV,renTV]
 |fn f e=>grind [noRefTV,renTV]
 |tup j=>
  grind [noRefTV,renTV]
theorem dG {a:Nat} (h: ∀e∈c.elems,∀x∈e,isPure x=true):selfO a c:=fun e b x f=>cf (h e b x f)
theorem zG {c:List (List AV)} (h:gH H b=some c): ∀e∈c,∀x∈e,isPure x=true:=by
 unfold gH at h;split at h
 ·injection h with h
  subst h;intro e f x g;simp only[aau]at f;obtain⟨j,_,rfl⟩:=f;simp only[aau]at g;obtain⟨l,_,rfl⟩:=g;rfl
 ·grind
 ·grind
 cases h
theorem DN {ev:Operand->Option TV} {n:Nat}: ∀(parts:List (Nat×Operand)) (i:Nat) (l:List (List AV)),pE ev n i parts=some l-> ∀e∈l,∀x∈e,isPure x=true
 |[],i,l,h=>by grind [pE]
 |(k,x)::b,i,l,h=>by
  simp only[pE]at h;split at h
  ·rename_i o m g f;split at h
   ·rename_i p;injection h with h
    subst h;intro e c y j;rcases aaR.1 c with rfl|c
    ·grind
    exact DN b (i+1) m f e c y j
   cases h
  cases h
theorem we {i d:Nat} {ev:Operand->Option TV} {op:Op} {F:List OObj} (h:cn P items ow i d ev H op=some (b,F)):selfTV d b/\(F=[]->noRefTV b=true)/\ ∀o∈F,selfO d o:=by
 cases op<;>simp only[cn]at h<;>try cases h
 case box e x=>
  split at h
  ·split at h
   ·rename_i w;injection h with h
    injection h with j m
    subst j m;refine⟨rfl,fun h=>by simp at h,fun o g=>?_⟩;grind [dG]
   cases h
  cases h
 case alloc e=>
  split at h
  ·split at h
   ·injection h with h
    injection h with j m
    subst j m;refine⟨rfl,fun h=>by simp at h,fun o g=>?_⟩;simp at g;subst g;exact dG (fun e q x p=>by simp at q;subst q;simp at p;obtain⟨y,_,rfl⟩:=p;rfl)
   cases h
  cases h
 case makeSlice ty l c=>
  split at h
  ·split at h
   ·split at h
    ·injection h with h
     injection h with j m
     subst j m;refine⟨rfl,fun h=>by simp at h,fun o g=>?_⟩;simp at g;subst g;exact dG (fun e q x p=>by simp[ach]at q;rw[q.2]at p;simp at p;obtain⟨y,_,rfl⟩:=p;rfl)
    cases h
   cases h
  cases h
 case buildSlice ty n parts=>
  split at h
  ·split at h
   ·split at h
    ·rename_i l I;split at h
     ·split at h
      ·injection h with h
       injection h with j m
       subst j m;refine⟨rfl,fun h=>by simp at h,fun o g=>?_⟩;grind [dG,DN]
      injection h with h
      injection h with j m
      subst j m;exact⟨trivial,fun _=>rfl,fun o g=>by simp at g⟩
     cases h
    cases h
   cases h
  cases h
 case call c=>
  split at h
  ·split at h
   ·rename_i D G u v;split at h
    ·rename_i w;injection h with h
     injection h with j m
     subst j m;refine⟨xv _ _,fun A=>?_,fun o g=>?_⟩
     ·grind [List.map_eq_nil_iff,zJ]
     simp only[aau]at g;obtain⟨E,_,rfl⟩:=g;intro e q x p;grind [renO,dB]
    cases h
   cases h
  ·split at h
   ·rename_i f r D G B u v;split at h
    ·rename_i w;injection h with h
     injection h with j m
     subst j m;refine⟨xv _ _,fun A=>?_,fun o g=>?_⟩
     ·grind [List.map_eq_nil_iff,zJ]
     simp only[aau]at g;obtain⟨E,_,rfl⟩:=g;intro e q x p;grind [renO,dB]
    cases h
   cases h
  ·split at h
   ·split at h
    ·rename_i z e J p C;split at h
     ·split at h
      ·injection h with h
       injection h with j m
       subst j m;refine⟨rfl,fun h=>by simp at h,fun o g=>?_⟩;grind [Option.bind_eq_some_iff,dG,zG]
      cases h
     cases h
    cases h
   cases h
  cases h
theorem kJ {k:Nat->Nat->Bool} {x:AV} (h: ∀a r,H a≠[]->k a r=false->H' a≠[]) (b:fj H x):fj H' (aO k x):=by
 cases x with
 |sl a r e len=>
  simp only[aO];cases c:k a r with
  |true=>trivial
  |false=>exact h a r b c
 |ptr a r i j=>
  simp only[aO];cases c:k a r with
  |true=>trivial
  |false=>exact h a r b c
 |p x=>trivial
 |junk=>trivial
 |fn f a g=>
  simp only[aO];split
  ·trivial
  rename_i c;refine⟨?_,b.2⟩;cases g with
  |nil=>exact absurd rfl b.2
  |cons q l=>exact h a q.1 b.1 (by grind)
theorem tN {k:Nat->Nat->Bool} (h: ∀a r,H a≠[]->k a r=false->H' a≠[]) (g:fX H b):fX H' (aP k b):=by
 cases b with
 |one x=>exact kJ h g
 |agg m=>intro y c;simp only[aau]at c;obtain⟨z,e,rfl⟩:=c;exact kJ h (g z e)
 |fn f m=>intro y c;simp only[aau]at c;obtain⟨z,e,rfl⟩:=c;exact kJ h (g z e)
 |tup o=>
  intro b l y c;simp only[aau]at l;obtain⟨n,j,rfl⟩:=l;simp only[aau]at c;obtain⟨z,e,rfl⟩:=c;exact kJ h (g n j z e)
theorem ry {a r:Nat} {l:List OObj} {o:OObj} (e: ∀o∈l,selfO a o) (b:selfO a c): ∀o∈l.set r c,selfO a o:=fun x f=>by
 grind
theorem q9 {a i j:Nat} {e h:List AV} (f:selfO a c) (l:c.elems[i]?=some e) (m: ∀x∈h,bs a x):selfO a {c with elems:=c.elems.set i (putCells e j h)}:=fun y g x b=>by
 rcases abt g with g|rfl
 ·exact f y g x b
 unfold putCells at b;simp only[abf]at b;rcases b with(b|b)|b
 ·exact f e (aai l) x (abJ b)
 ·grind
 exact f e (aai l) x (abX b)
theorem KQ (B:kV s) {op:Op} {q:Fm} (h:fP P s.ev s.H op=some q):(∀a r,s.H a≠[]->q.k a r=false->q.H a≠[])/\(∀a,∀o∈q.H a,selfO a o)/\fX q.H q.t:=by
 have w: ∀H,fX H TV.undef:=fun H t ht=>by simp at ht
 have l: ∀{a r:Nat} {o:OObj} {F:List OObj},(s.H a)[r]?=some o->F.length>=(s.H a).length->(∀o∈F,selfO a o)->(∀(b Y:Nat),s.H b≠[]->ax s.H a F b≠[])/\ ∀b,∀o∈ax s.H a F b,selfO b o:=fun{a r o F} u hlen hF=>by
  have V:0<(s.H a).length:=by grind
  refine⟨fun b _ O=>?_,fun b X G=>?_⟩
  ·grind [aM,aG]
  by_cases E:b=a
  ·grind [aM]
  rw[aG E]at G;exact B.2 b X G
 cases op<;>simp only[fP]at h<;>try cases h
 case store t ad x=>
  split at h
  ·rename_i a r i j n ab hn;split at h
   ·rename_i o u;have m:=B.2 a o (aai u);split at h
    ·rename_i e A;split at h
     ·rename_i I Y N len C;split at h
      ·rename_i K;subst K;split at h
       ·injection h with h
        subst h;obtain⟨D,J⟩:=l u (F:=(s.H I).set r {o with elems:=o.elems.set i (putCells e j [.sl I Y N len])}) (by simp) (ry (o:=o) (B.2 I) (q9 m A (fun y g=>by simp at g;subst g;rfl)));grind
       cases h
      rename_i K;split at h
      ·rename_i ob hH;split at h
       ·rename_i L;injection h with h
        subst h;have Q:=L.2.2.2.2.2.2;simp only[aat]at Q;obtain⟨D,J⟩:=l u (F:=(s.H a).set r {o with elems:=o.elems.set i (putCells e j [.sl a (s.H a).length 0 len])}++[ob]) (by simp) (fun y g=>by
         rcases abf.1 g with g|g
         ·exact ry (o:=o) (B.2 a) (q9 m A (fun y g=>by simp at g;subst g;rfl)) y g
         grind [dG])
        refine⟨fun b r O hk=>?_,fun b X G=>?_,w _⟩
        ·have E:b≠I:=by grind
         show ax _ I [] b≠[];rw[aG E];exact D b r O
        grind [aM,aG]
       cases h
      cases h
     ·rename_i f U C;split at h
      ·rename_i qs af;split at h
       ·rename_i L;injection h with h
        subst h;obtain⟨D,J⟩:=l u (F:=(s.H a).set r {o with elems:=o.elems.set i (putCells e j [.fn f a qs])}) (by simp) (ry (o:=o) (B.2 a) (q9 m A (fun y g=>by simp at g;subst g;exact⟨rfl,acl L.2.2⟩)));grind
       cases h
      cases h
     ·rename_i v hv hv2 C;split at h
      ·rename_i U ae;split at h
       ·rename_i L;injection h with h
        subst h;have Q:=L.2.2;simp only[aat]at Q;obtain⟨D,J⟩:=l u (F:=(s.H a).set r {o with elems:=o.elems.set i (putCells e j U)}) (by simp) (ry (o:=o) (B.2 a) (q9 m A (fun y g=>zL (Q y g))));grind
       cases h
      cases h
     cases h
    cases h
   cases h
  cases h
 case call c=>
  split at h
  ·split at h
   ·rename_i a r N len M e hs C ag;split at h
    ·rename_i o z sz aa u hz W ac;split at h
     ·injection h with h
      subst h;obtain⟨tx,_,hn⟩:=aaG.1 C;have m:=B.2 a o (aai u);obtain⟨D,J⟩:=l u (F:=((s.H a).map (lL fun x y=>x==a&&y==r)).set r {o with elems:=o.elems++M}) (by simp) (fun y g=>by
       rcases abt g with g|rfl
       ·simp only[aau]at g;obtain⟨o2,S,rfl⟩:=g;intro e A x C;simp only[lL,aau]at A;obtain⟨e',R,rfl⟩:=A;simp only[aau]at C;obtain⟨Z,T,rfl⟩:=C;have:=B.2 a o2 S e' R Z T;cases Z with
        |sl b _ _ _=>simp only[aO];split;trivial;omega
        |ptr b _ _ _=>simp only[aO];split;trivial;omega
        |fn _ b _=>simp only[aO];split;trivial;omega
        |p x=>trivial
        |junk=>trivial
       intro e A x C;grind [cf,zG])
      refine⟨fun b r O _=>D b r O,J,?_⟩;exact D a r (by grind)
     cases h
    cases h
   cases h
  cases h
theorem AH {i:Nat} {o:Oper} (f:kV s) (h:aU P items ow ops i o s=some s1):kV s1:=by
 rw[bN]at h;obtain⟨out,c,h⟩:=aaG.1 h;unfold cL at c;have g:fX s.H TV.undef:=fun t C=>by simp at C
 split at c
 ·unfold jc at c;split at c
  ·grind [Option.map_eq_some_iff,ca,lT,KS]
  split at c
  ·grind [Option.map_eq_some_iff,ca,lT,KT]
  split at c
  ·rename_i q B;injection c with c
   subst c;simp only[ca]at h;injection h with h;subst h
   obtain⟨r,u,v⟩:=KQ f B;refine lT ⟨fun t x j=>?_,u⟩ v;simp only[aam]at j;obtain⟨y,D,rfl⟩:=aak.1 j;exact tN r (f.1 t y D)
  split at c
  ·cases c
  rename_i d z;cases m:cn P items ow i d s.ev s.H o.op with
  |none=>rw[m]at c;cases c
  |some G=>
   obtain⟨t,F⟩:=G;rw[m]at c;obtain⟨f1,f2,f3⟩:=we m;cases F with
   |nil=>
    grind [LC,ca,lT,GQ]
   |cons p l=>
    simp only[LC]at c;injection c with c
    subst c;simp only[ca,z]at h;split at h
    ·rename_i I;injection h with h
     subst h;refine lT ⟨fun k x j=>?_,fun b E e=>?_⟩ (Er f1 (by simp[aM]))
     ·have:=f.1 k x j;have A: ∀a,s.H a≠[]->ax s.H d (p::l) a≠[]:=fun a n=>by grind [aG]
      have:=tN (H':=ax s.H d (p::l)) (k:=fun _ _=>false) (fun a _ n _=>A a n) this;grind [mt]
     by_cases w:b=d
     ·grind [aM]
     simp only[aG w]at e;exact f.2 b E e
    cases h
 ·grind [ca,lT]
 grind
end
end
end Go.Proofs.YtalmoejhjceflaaGreat
