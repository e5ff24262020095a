/-
  Part 25 of a proof (walks and plain facts).
-/
import Derived.Test.YtalmoejhjceflaaGreatR23
set_option linter.all false
set_option maxRecDepth 100000
set_option maxHeartbeats 64000000
open Nat renaming reduceAdd → aa
open Nat renaming reduceEqDiff → ab
open List renaming replicate → ae
namespace Go.Proofs.YtalmoejhjceflaaGreat
open Go.RowKit Go.Proofs.Tryz
variable {b:List Nat} {n:Nat} {x:Int}
def sumL:List Nat->List Nat->Nat->List Nat
 |[],[],c=>[c]
 |a::m,[],c=>(c+a)%4294967296::sumL m [] ((c+a)/4294967296)
 |[],b::n,c=>(c+b)%4294967296::sumL [] n ((c+b)/4294967296)
 |a::m,b::n,c=>(c+a+b)%4294967296::sumL m n ((c+a+b)/4294967296)
theorem lR: ∀(m n:List Nat) (c:Nat),natV (sumL m n c)=natV m+natV n+c
 |[],[],c=>by simp[sumL,natV]
 |a::m,[],c=>by simp only[sumL,natV,lR m []];omega
 |[],b::n,c=>by simp only[sumL,natV,lR [] n];omega
 |a::m,b::n,c=>by simp only[sumL,natV,lR m n];omega
theorem du {a:Nat}:Lmb (a::b)↔a<4294967296/\Lmb b:=by simp[Lmb]
theorem nK: ∀(m n:List Nat) (c:Nat),Lmb m->Lmb n->c<=1->Lmb (sumL m n c)
 |[],[],c,_,_,g=>by grind [sumL,Lmb]
 |a::m,[],c,e,f,g=>by
  rw[du]at e;rw[sumL,du];exact⟨aaQ _ (by omega),nK m [] _ e.2 f (by omega)⟩
 |[],b::n,c,e,f,g=>by
  rw[du]at f;rw[sumL,du];exact⟨aaQ _ (by omega),nK [] n _ e f.2 (by omega)⟩
 |a::m,b::n,c,e,f,g=>by
  rw[du]at e f;rw[sumL,du];exact⟨aaQ _ (by omega),nK m n _ e.2 f.2 (by omega)⟩
theorem rL: ∀(m n:List Nat) (c:Nat),(sumL m n c).length=max m.length n.length+1
 |[],[],c=>by simp[sumL]
 |a::m,[],c=>by simp[sumL,rL m []]
 |[],b::n,c=>by simp[sumL,rL [] n]
 |a::m,b::n,c=>by simp[sumL,rL m n]
theorem dQ {i a:Nat} (h:b[i]?=some a):b.drop i=a::b.drop (i+1):=by
 grind [List.drop_eq_getElem_cons]
theorem d8 {i:Nat} (h:b.length<=i):b.drop i=[]:=acr.2 h
theorem bZ {i a:Nat} (c:Lmb b) (h:b[i]?=some a):a<4294967296:=c a (aai h)
theorem E7 (x:Nat):IntKind.u32.wrap (x:Int)=((x%4294967296:Nat):Int):=by rfl
theorem ML (x:Nat):(x:Int).fdiv (2^(min 32 IntKind.u64.bits))=((x/4294967296:Nat):Int):=by
 show Int.fdiv (x:Int) 4294967296=_;grind
structure ZE (m n:List Nat) where
 i:Nat
 o:List Nat
 c:Nat
 hi:i<=max m.length n.length
 hc:c<=1
 ho:o.length=i
 h:o++sumL (m.drop i) (n.drop i) c=sumL m n 0
theorem Y9 (m n:List Nat) (x:Lmb m) (t:Lmb n) (y:m.length<=1073741824) (z:n.length<=1073741824):
  CallC prog 172 [cY m,cY n] ⟨[],cY (sumL m n 0)⟩:=by
 refine aA func172 rfl ntmps172 (aC (k:=bC (k:=bC (k:=ai (bC (k:=?_))))));refine aB (G:=ZE m n) (fun g=>⟨(cY m::cY n::jk::jk::.raw (.slice none 0 0)::.one (.sl 46 0 0 g.o.length)::.raw (.int .u64 (g.c:Int))::rN g.i::j16 (j16 (j4 (j4 (j4 (jk::jk::[])))))),Hm [(46,[⟨165,1,lc fU g.o⟩])]⟩) (fun g=>max m.length n.length-g.i) ⟨0,[],0,by omega,by omega,rfl,rfl⟩ ?_ ?_
 ·refine(dZ (k:=5) (d:=46) 165 1 (by omega) rfl rfl).trans (aj ⟨rfl,trivial⟩ ?_);simp[wk]
 rintro⟨i,o,c,B,A,r,h⟩;simp only;have w:max m.length n.length<=1073741824:=by omega
 by_cases v:i<m.length
 ·obtain⟨a,l⟩:=getElem?_of_lt v;have u:=bZ x l;refine ai (ar (k:=ay rfl (ak (ai (am (ai (ar (k:=ay rfl (eK l (k:=ai (bC (k:=?_))))))))))));by_cases q:i<n.length
  ·obtain⟨b,f⟩:=getElem?_of_lt q;have p:=bZ t f;refine bi rfl (fun _=>?_) (fun h=>by simp at h<;>omega);refine eK f (k:=?_);show bf _ _ _ _;have e:IntKind.u32.wrap ((c:Int)+(a:Int)+(b:Int))=(((c+a+b)%4294967296:Nat):Int):=by rfl
   have j:Int.fdiv ((c:Int)+(a:Int)+(b:Int)) (2^(min 32 IntKind.u64.bits))=(((c+a+b)/4294967296:Nat):Int):=by rw[<- ML];rfl
   refine aL (aH e @i4) (k:=jm j (k:=bS (k:=?_)));refine⟨⟨i+1,o++[(c+a+b)%4294967296],(c+a+b)/4294967296,by omega,by omega,by simp[r],?_⟩,by simp only;omega,aj ⟨rfl,trivial⟩ ?_⟩
   ·rw[<- h,dQ l,dQ f,sumL,aaM];rfl
   simp[wk]
  refine bi rfl (fun h=>by simp at h<;>omega) (fun _=>ak ?_);show bf _ _ _ _;have e:IntKind.u32.wrap ((c:Int)+(a:Int))=(((c+a)%4294967296:Nat):Int):=by rfl
  have j:Int.fdiv ((c:Int)+(a:Int)) (2^(min 32 IntKind.u64.bits))=(((c+a)/4294967296:Nat):Int):=by rw[<- ML];rfl
  refine aL (aH e @i4) (k:=jm j (k:=bS (k:=?_)));refine⟨⟨i+1,o++[(c+a)%4294967296],(c+a)/4294967296,by omega,by omega,by simp[r],?_⟩,by simp only;omega,aj ⟨rfl,trivial⟩ ?_⟩
  ·rw[<- h,dQ l,d8 (by omega:n.length<=i),d8 (by omega:n.length<=i+1),sumL,aaM];rfl
  simp[wk]
 by_cases q:i<n.length
 ·obtain⟨b,f⟩:=getElem?_of_lt q;have p:=bZ t f;refine ai (ar (k:=ay rfl (ak (ai (am (ai (ar (k:=aq rfl (ak (ai (ar (k:=ay rfl (eK f (k:=?_))))))))))))));show bf _ _ _ _;have e:IntKind.u32.wrap ((c:Int)+(b:Int))=(((c+b)%4294967296:Nat):Int):=by rfl
  have j:Int.fdiv ((c:Int)+(b:Int)) (2^(min 32 IntKind.u64.bits))=(((c+b)/4294967296:Nat):Int):=by rw[<- ML];rfl
  refine aL (aH e @i4) (k:=jm j (k:=bS (k:=?_)));refine⟨⟨i+1,o++[(c+b)%4294967296],(c+b)/4294967296,by omega,by omega,by simp[r],?_⟩,by simp only;omega,aj ⟨rfl,trivial⟩ ?_⟩
  ·rw[<- h,dQ f,d8 (by omega:m.length<=i),d8 (by omega:m.length<=i+1),sumL,aaM];rfl
  simp[wk]
 refine ai (ar (k:=aq rfl (aZ ?_)));show bf _ _ _ _;have e:IntKind.u32.wrap (c:Int)=(c:Int):=by rw[E7];omega
 refine aL (aH e @i4) (k:=?_);have s:sumL m n 0=o++[c]:=by grind [d8,sumL]
 (refine aW ⟨.inr rfl,jt 46 (bO rfl) ?_ rfl⟩;simp(disch:=omega) only[kd,results172,cY])
 grind
def diffL:List Nat->List Nat->Nat->List Nat
 |[],_,_=>[]
 |a::m,[],w=>(a+8589934592-w)%4294967296::diffL m [] (if a<w then 1 else 0)
 |a::m,b::n,w=>(a+8589934592-(w+b))%4294967296::diffL m n (if a<w+b then 1 else 0)
theorem iE: ∀(m n:List Nat) (w:Nat),Lmb m->Lmb n->w<=1->n.length<=m.length->natV n+w<=natV m->natV (diffL m n w)+(natV n+w)=natV m
 |[],[],w,_,_,_,_,h=>by grind [diffL,natV]
 |[],b::n,w,_,_,_,h,_=>by simp at h
 |a::m,[],w,c,e,g,f,h=>by
  rw[du]at c;simp only[natV]at h;have:=iE m [] (if a<w then 1 else 0) c.2 e (by grind) (by simp) (by grind [natV]);grind [diffL,natV]
 |a::m,b::n,w,c,e,g,f,h=>by
  rw[du]at c e;simp only[natV]at h;have:=iE m n (if a<w+b then 1 else 0) c.2 e.2 (by grind) (by grind) (by grind);grind [diffL,natV]
theorem jP: ∀(m n:List Nat) (w:Nat),Lmb (diffL m n w)
 |[],n,w=>by simp[diffL,Lmb]
 |a::m,[],w=>by rw[diffL,du];exact⟨aaQ _ (by omega),jP m [] _⟩
 |a::m,b::n,w=>by rw[diffL,du];exact⟨aaQ _ (by omega),jP m n _⟩
theorem jN: ∀(m n:List Nat) (w:Nat),(diffL m n w).length=m.length
 |[],n,w=>by simp[diffL]
 |a::m,[],w=>by simp[diffL,jN m []]
 |a::m,b::n,w=>by simp[diffL,jN m n]
structure Yi (m n:List Nat) where
 i:Nat
 o:List Nat
 c:Nat
 hi:i<=m.length
 hc:c<=1
 ho:o.length=i
 h:o++diffL (m.drop i) (n.drop i) c=diffL m n 0
theorem mr (m n:List Nat) (v:Lmb m) (w:Lmb n) (x:m.length<=1073741824) (y:n.length<=1073741824):
  CallC prog 173 [cY m,cY n] ⟨[],cY (diffL m n 0)⟩:=by
 refine aA func173 rfl ntmps173 (aC (k:=bC (k:=bC (k:=ai (bC (k:=?_))))));refine aB (G:=Yi m n) (fun g=>⟨(cY m::cY n::jk::jk::.raw (.slice none 0 0)::.one (.sl 37 0 0 g.o.length)::.raw (.int .u64 (g.c:Int))::rN g.i::j16 (j16 (j4 (jk::jk::[])))),Hm [(37,[⟨165,1,lc fU g.o⟩])]⟩) (fun g=>m.length-g.i) ⟨0,[],0,by omega,by omega,rfl,rfl⟩ ?_ ?_
 ·refine(dZ (k:=5) (d:=37) 165 1 (by omega) rfl rfl).trans (aj ⟨rfl,trivial⟩ ?_);simp[wk]
 rintro⟨i,o,c,A,z,l,h⟩;simp only;by_cases t:i<m.length
 ·obtain⟨a,f⟩:=getElem?_of_lt t;have r:=bZ v f;refine ai (ar (k:=ay rfl (ak (ai (am (bC (k:=ai (bC (k:=?_)))))))));by_cases u:i<n.length
  ·obtain⟨b,j⟩:=getElem?_of_lt u;have s:=bZ w j;refine bi rfl (fun _=>?_) (fun h=>by simp at h<;>omega);refine eK j (k:=?_);show bf _ _ _ _;have p:IntKind.u32.wrap (IntKind.u64.wrap ((a:Int)-((c:Int)+(b:Int))))=(((a+8589934592-(c+b))%4294967296:Nat):Int):=by rw[abQ,aa1];omega
   refine aL (aH f (aH p @i4)) (k:=bC (k:=aL f (k:=?_)));by_cases e:a<c+b
   ·refine bi rfl (fun _=>?_) (fun h=>by simp at h<;>omega);refine bS (k:=bS (k:=?_));refine⟨⟨i+1,o++[(a+8589934592-(c+b))%4294967296],1,by omega,by omega,by simp[l],?_⟩,by simp only;omega,aj ⟨rfl,trivial⟩ ?_⟩
    ·rw[<- h,dQ f,dQ j,diffL,aaM,if_pos e];rfl
    simp[wk]
   refine bi rfl (fun h=>by simp at h<;>omega) (fun _=>ak ?_);show bf _ _ _ _;refine bS (k:=?_);refine⟨⟨i+1,o++[(a+8589934592-(c+b))%4294967296],0,by omega,by omega,by simp[l],?_⟩,by simp only;omega,aj ⟨rfl,trivial⟩ ?_⟩
   ·rw[<- h,dQ f,dQ j,diffL,aaM,if_neg e];rfl
   simp[wk]
  refine bi rfl (fun h=>by simp at h<;>omega) (fun _=>ak ?_);show bf _ _ _ _;have p:IntKind.u32.wrap (IntKind.u64.wrap ((a:Int)-(c:Int)))=(((a+8589934592-c)%4294967296:Nat):Int):=by rw[abQ,aa1];omega
  refine aL (aH f (aH p @i4)) (k:=bC (k:=aL f (k:=?_)));by_cases e:a<c
  ·refine bi rfl (fun _=>?_) (fun h=>by simp at h<;>omega);refine bS (k:=bS (k:=?_));refine⟨⟨i+1,o++[(a+8589934592-c)%4294967296],1,by omega,by omega,by simp[l],?_⟩,by simp only;omega,aj ⟨rfl,trivial⟩ ?_⟩
   ·rw[<- h,dQ f,d8 (by omega:n.length<=i),d8 (by omega:n.length<=i+1),diffL,aaM,if_pos e];rfl
   simp[wk]
  refine bi rfl (fun h=>by simp at h<;>omega) (fun _=>ak ?_);show bf _ _ _ _;refine bS (k:=?_);refine⟨⟨i+1,o++[(a+8589934592-c)%4294967296],0,by omega,by omega,by simp[l],?_⟩,by simp only;omega,aj ⟨rfl,trivial⟩ ?_⟩
  ·rw[<- h,dQ f,d8 (by omega:n.length<=i),d8 (by omega:n.length<=i+1),diffL,aaM,if_neg e];rfl
  simp[wk]
 refine ai (ar (k:=aq rfl (aZ (bC (k:=?_)))));have q:diffL m n 0=o:=by grind [diffL]
 (refine aW ⟨.inr rfl,jt 37 (bO rfl) ?_ rfl⟩;simp(disch:=omega) only[kd,results173,cY])
 grind
abbrev Bh (z:Int):Prop:=Sz z 536870912
theorem Bh.bg (h:Bh x):Bg x:=h.mono (by omega)
theorem Bh.len (h:Bh x):(au x.natAbs).length<=536870912:=lP h
theorem Sz.neg {k:Nat} (h:Sz x k):Sz (-x) k:=by grind [Sz]
theorem Bh.neg (h:Bh x):Bh (-x):=Sz.neg h
theorem Nq {a:Int} (h:decide (a<0)=decide (x<0)):f4 (decide (a<0)) (a.natAbs+x.natAbs)=a+x:=by
 grind [f4]
theorem C4 {a:Int} (h:decide (a<0)≠decide (x<0)) (c:x.natAbs<=a.natAbs) {d:Nat} (e:d+(x.natAbs+0)=a.natAbs):f4 (decide (a<0)) d=a+x:=by
 grind [f4]
theorem i9 {m:List Nat} (f:Lmb b) (c:uw m) (h:natV m<=natV b):m.length<=b.length:=by
 by_cases e:m.length<=b.length
 ·exact e
 have:=ja f c (by omega);omega
theorem ve (a b:Int) (o:Bh a) (p:Bh b):CallC prog 123 [tZ a,tZ b] ⟨[],tZ (a+b)⟩:=by
 have q:=o.len;have r:=p.len;have t1:=jv (au a.natAbs) o.bg.len;have t2:=jv (au b.natAbs) p.bg.len;rw[ii]at t1 t2;by_cases l:decide (a<0)=decide (b<0)
 ·have f:=Y9 (au a.natAbs) (au b.natAbs) (aE _) (aE _) (by omega) (by omega);have e:=j8 (decide (a<0)) (sumL (au a.natAbs) (au b.natAbs) 0) (nK _ _ _ (aE _) (aE _) (by omega)) (by rw[rL];omega);rw[lR,az,az,aa5,Nq l]at e;have c:(decide (a<0)==decide (b<0))=true:=by simp[l]
  refine aA func123 rfl ntmps123 (aC (k:=di [⟨2,_,_,_,t1⟩,⟨5,_,_,_,t2⟩] (k:=ai (aL c (k:=ay rfl (di [⟨4,_,_,_,f⟩,⟨5,_,_,_,e⟩] (k:=aD @results123)))))))
 have c:(decide (a<0)==decide (b<0))=false:=by grind
 have f:=IG (au a.natAbs) (au b.natAbs) (aE _) (aE _) (b9 _) (b9 _) (by omega) (by omega);rw[az,az]at f;by_cases n:b.natAbs<=a.natAbs
 ·have m:0<=gD a.natAbs b.natAbs:=by grind [gD]
  have e:=mr (au a.natAbs) (au b.natAbs) (aE _) (aE _) (by omega) (by omega);have g:=j8 (decide (a<0)) (diffL (au a.natAbs) (au b.natAbs) 0) (jP _ _ _) (by rw[jN];omega);have j:=iE (au a.natAbs) (au b.natAbs) 0 (aE _) (aE _) (by omega) (i9 (aE _) (b9 _) (by grind [az])) (by grind [az]);rw[az,az]at j;rw[C4 l n j]at g;refine aA func123 rfl ntmps123 (aC (k:=di [⟨2,_,_,_,t1⟩,⟨5,_,_,_,t2⟩] (k:=ai (aL c (k:=aq rfl (ak (ai (bL [⟨2,_,_,_,f⟩] (k:=ay rfl (di [⟨4,_,_,_,e⟩,⟨5,_,_,_,g⟩] (k:=aD @results123)))))))))))
 have m:gD a.natAbs b.natAbs<0:=by grind [gD]
 have e:=mr (au b.natAbs) (au a.natAbs) (aE _) (aE _) (by omega) (by omega);have g:=j8 (decide (b<0)) (diffL (au b.natAbs) (au a.natAbs) 0) (jP _ _ _) (by rw[jN];omega);have j:=iE (au b.natAbs) (au a.natAbs) 0 (aE _) (aE _) (by omega) (i9 (aE _) (b9 _) (by grind [az])) (by grind [az]);rw[az,az]at j;rw[C4 (fun h=>l h.symm) (by omega) j,Int.add_comm]at g;refine aA func123 rfl ntmps123 (aC (k:=di [⟨2,_,_,_,t1⟩,⟨5,_,_,_,t2⟩] (k:=ai (aL c (k:=aq rfl (ak (ai (bL [⟨2,_,_,_,f⟩] (k:=aq rfl (ak (di [⟨4,_,_,_,e⟩,⟨5,_,_,_,g⟩] (k:=aD @results123))))))))))))
theorem MS (a b:Int) (g:Bh a) (e:Bh b):CallC prog 77 [tZ a,tZ b] ⟨[],tZ (a-b)⟩:=by
 have f:=Pa b e.bg;have c:=ve a (-b) g e.neg;rw[<- aee]at c;refine aA func77 rfl ntmps77 (aC (k:=di [⟨2,_,_,_,f⟩,⟨3,_,_,_,c⟩] (k:=aD @results77)))
theorem qS: ∀(l:List Nat) (k v o:Nat),l[k]?=some o->natV (l.set k v)+o*4294967296^k=natV l+v*4294967296^k
 |[],k,v,o,h=>by simp at h
 |a::l,0,v,o,h=>by grind [natV]
 |a::l,k+1,v,o,h=>by
  simp at h;have:=qS l k v o h;simp only[List.set_cons_succ,natV,abl];grind
theorem Bj (h:Lmb b) {k:Nat} (e:n<4294967296):Lmb (b.set k n):=fun a c=>by
 rcases abt c with c|rfl
 ·exact h a c
 exact e
theorem wP (n:Nat):natV (ae n 0)=0:=by induction n with
 |zero=>rfl
 |succ n b=>simp[acx,natV,b]
theorem bj {i a:Nat} (h:b[i]?=some a):natV (b.take (i+1))=natV (b.take i)+a*4294967296^i:=by
 grind [List.take_succ_eq_append_getElem,i7,natV]
theorem mw (n:Nat):ae n [AV.p (.raw (.int .u32 0))]=lc fU (ae n 0):=by simp[lc,fU]
theorem dq (l:List Nat) (k v:Nat):(lc fU l).set k [AV.p (.raw (.int .u32 (v:Int)))]=lc fU (l.set k v):=by simp_all[lc,fU]
structure Kc (A B:List Nat) where
 i:Nat
 O:List Nat
 hi:i<=A.length
 len:O.length=A.length+B.length
 lmb:Lmb O
 val:natV O=natV (A.take i)*natV B
 zero: ∀k,i+B.length<=k->k<A.length+B.length->O[k]?=some 0
structure MO (A B:List Nat) (i a:Nat) where
 j:Nat
 O:List Nat
 c:Nat
 hj:j<=B.length
 len:O.length=A.length+B.length
 lmb:Lmb O
 hc:c<4294967296
 val:natV O+c*4294967296^(i+j)=natV (A.take i)*natV B+a*natV (B.take j)*4294967296^i
 zero: ∀k,i+B.length<=k->k<A.length+B.length->O[k]?=some 0
theorem oE {a:Nat} (c:a<4294967296) (e:n<4294967296):a*n<=18446744065119617025:=by
 have:a*n<=4294967295*4294967295:=aaT (by omega) (by omega);omega
theorem zA {B:List Nat} {i a:Nat} (g:MO b B i a) {o:Nat} (q:B[g.j]?=some n) (p:g.O[i+g.j]?=some o) (w:i<b.length) (r:a<4294967296) (h:n<4294967296):
  ∃e:MO b B i a,e.j=g.j+1/\e.O=g.O.set (i+g.j) ((g.c+(a*n+o))%4294967296)/\e.c=(g.c+(a*n+o))/4294967296:=by
 have f:g.j<B.length:=(aao.1 q).1;have s:=bZ g.lmb p;have u:=oE r h;have v:=g.hc;refine⟨⟨g.j+1,g.O.set (i+g.j) ((g.c+(a*n+o))%4294967296),(g.c+(a*n+o))/4294967296,f,by simp[g.len],Bj g.lmb (aaQ _ (by omega)),?_,?_,fun k l m=>?_⟩,rfl,rfl,rfl⟩
 ·omega
 ·have l:=qS g.O (i+g.j) ((g.c+(a*n+o))%4294967296) o p;have m:=bj q;have t:=g.val;grind [Nat.mod_add_div]
 rw[abq (by omega)];exact g.zero k l m
theorem zz {B:List Nat} {i a:Nat} (m:b[i]?=some a) (g:MO b B i a) (q: ¬g.j<B.length): ∃f:Kc b B,f.i=i+1/\f.O=g.O.set (i+B.length) g.c:=by
 have n:=(aao.1 m).1;have o:=g.hj;have e:g.j=B.length:=by omega
 have p:=g.zero (i+B.length) (aar _) (by omega);refine⟨⟨i+1,g.O.set (i+B.length) g.c,n,by simp[g.len],Bj g.lmb g.hc,?_,fun k l h=>?_⟩,rfl,rfl⟩
 ·have l:=qS g.O (i+B.length) g.c 0 p;have h:=g.val;grind [bj]
 rw[abq (by omega)];exact g.zero k (by omega) h
theorem Jf (a b:Int):f4 (!(decide (a<0)==decide (b<0))) (a.natAbs*b.natAbs)=a*b:=by
 grind [f4]
abbrev Cp (neg:Bool) (A:List Nat):List OObj:=[⟨65,2,[[.p (.raw (.bool neg)),.p (.sl (ls fU A))]]⟩]
abbrev AO:List OObj:=[⟨65,2,[[.raw (.bool false),.raw (.slice none 0 0)]]⟩]
theorem jY (a b:Int) (P:Bh a) (D:Bh b):CallC prog 78 [tZ a,tZ b] ⟨[],tZ (a*b)⟩:=by
 have Y:=P.len;have Z:=D.len;have t:=aE a.natAbs;have u:=aE b.natAbs;have vA:=az a.natAbs;have vB:=az b.natAbs;refine dr func78 rfl (by kernel_rfl) ?_;rw[ntmps78];refine an fun _ K=>?_;simp(disch:=omega) only[kd,aa,tZ,ae,ab];apply K
 generalize au a.natAbs=A at*
 generalize au b.natAbs=B at*
 have I:((A.length:Int)+(B.length:Int)).toNat=A.length+B.length:=by omega
 refine an fun _ K=>?_;simp(disch:=omega) only[kd,aa,ab,aK,I,mw];apply K
 refine ai (an fun _ K=>?_);simp(disch:=omega) only[kd,aa,ab];apply K;refine aB (G:=Kc A B) (fun g=>⟨(jk::jk::.one (.ptr 2 0 0 0)::.one (.ptr 3 0 0 0)::.one (.ptr 4 0 0 0)::.one (.sl 18 0 0 (A.length+B.length))::j4 (j4 (j4 (jk::jk::cY A::rN A.length::rN g.i::j16 (j16 (j16 (j4 (jk::jk::[])))))))),Hm [(2,Cp (decide (a<0)) A),(3,Cp (decide (b<0)) B),(4,AO),(18,[⟨165,1,lc fU g.O⟩])]⟩) (fun g=>A.length-g.i) ⟨0,ae (A.length+B.length) 0,by omega,by simp,fun x f=>by simp at f;omega,by simp[wP,natV],fun k V N=>by rw[aba,if_pos N]⟩ ?_ ?_
 ·refine aj ⟨rfl,rfl,rfl,rfl,trivial⟩ ?_;simp[wk]
 rintro⟨i,O,W,len,lmb,val,zero⟩;simp only;by_cases F:i<A.length
 ·obtain⟨x,f⟩:=getElem?_of_lt F;have h:=bZ t f;refine an fun _ K=>?_;simp(disch:=omega) only[kd,cY];apply K
  refine be rfl ?_;refine ai (am ?_);refine an fun _ K=>?_;simp(disch:=omega) only[kd,aa,f];apply K
  refine an fun _ K=>?_;simp only[kd];apply K
  refine ai (an fun _ K=>?_);simp(disch:=omega) only[kd,aa,ab];apply K;refine aB (G:=MO A B i x) (fun g=>⟨(jk::jk::.one (.ptr 2 0 0 0)::.one (.ptr 3 0 0 0)::.one (.ptr 4 0 0 0)::.one (.sl 18 0 0 (A.length+B.length))::rN i::.raw (.int .u32 (x:Int))::.raw (.int .u64 (g.c:Int))::j4 (j4 (jk::jk::jk::cY A::rN A.length::rN i::j4 (jk::cY B::rN B.length::rN g.j::j16 (j16 (j4 (j4 (j4 (jk::jk::[]))))))))),Hm [(2,Cp (decide (a<0)) A),(3,Cp (decide (b<0)) B),(4,AO),(18,[⟨165,1,lc fU g.O⟩])]⟩) (fun g=>B.length-g.j) ⟨0,O,0,by omega,len,lmb,by omega,by simpa[natV] using val,zero⟩ ?_ ?_
  ·refine aj ⟨rfl,rfl,rfl,rfl,trivial⟩ ?_;simp[wk]
  intro g;by_cases H:g.j<B.length
  ·obtain⟨y,v⟩:=getElem?_of_lt H;have l:=bZ u v;have E:=g.len;obtain⟨o,n⟩:=getElem?_of_lt (show i+g.j<g.O.length by omega);have S:=bZ g.lmb n;have D:=oE h l;have s:=g.hc;obtain⟨r,w,z,U⟩:=zA g v n F h l;have m:((i:Int)+(g.j:Int)).toNat=i+g.j:=by omega
   have J:(x:Int)*(y:Int)=((x*y:Nat):Int):=by simp
   generalize X:x*y=p at*
   have q:IntKind.u32.wrap ((g.c:Int)+((p:Int)+(o:Int)))=(((g.c+(p+o))%4294967296:Nat):Int):=by rfl
   have L:Int.fdiv ((g.c:Int)+((p:Int)+(o:Int))) (2^(min 32 IntKind.u64.bits))=(((g.c+(p+o))/4294967296:Nat):Int):=by grind [ML]
   refine an fun _ K=>?_;simp(disch:=omega) only[kd,cY];apply K
   refine be rfl ?_;refine ai (am ?_);refine an fun _ K=>?_;simp(disch:=omega) only[kd,aa,v];apply K
   refine an fun _ K=>?_;simp(disch:=omega) only[kd,aa,ce,J,aK,m,ab,n];apply K
   refine an fun _ K=>?_;simp(disch:=omega) only[kd,aa,aK,q,m,ab,n,dq];apply K
   refine cz fun _ K=>?_;simp only[kd,aa,Int.reduceLE,Int.reduceToNat,L];apply K
   show bf _ _ _ _;refine cz fun _ K=>?_;simp(disch:=omega) only[kd,aK];apply K
   refine⟨r,by omega,aj ⟨rfl,rfl,rfl,by rw[z];rfl,trivial⟩ ?_⟩;simp[wk,w,U]
  have Q:=g.hj;have s:=g.hc;have R:=g.len;obtain⟨r,w,z⟩:=zz f g H;have m:((i:Int)+(B.length:Int)).toNat=i+B.length:=by omega
  have q:IntKind.u32.wrap (g.c:Int)=(g.c:Int):=by rw[E7];omega
  refine an fun _ K=>?_;simp(disch:=omega) only[kd,cY];apply K
  refine bv rfl ?_;show bf _ _ _ _;have T:=g.zero (i+B.length) (aar _) (by omega);refine cz fun _ K=>?_;simp(disch:=omega) only[kd,aa,ab,aK,q,m,T,dq];apply K
  show bf _ _ _ _;refine cz fun _ K=>?_;simp(disch:=omega) only[kd,aK];apply K
  refine⟨r,by omega,aj ⟨rfl,rfl,rfl,by rw[z];rfl,trivial⟩ ?_⟩;simp[wk,w]
 have e:natV O=a.natAbs*b.natAbs:=by
  grind
 have C:=j8 (!(decide (a<0)==decide (b<0))) O lmb (by omega);rw[e,Jf]at C;refine an fun _ K=>?_;simp(disch:=omega) only[kd,cY];apply K
 refine bv rfl ?_;show bf _ _ _ _;refine bf.weak (bD 18 (bO rfl)) ?_;have M:List.take (A.length+B.length) O=O:=aaz (by omega);simp(disch:=omega) only[kd,tZ,ab,M];refine aQ [⟨6,_,_,_,C⟩] [] fun _ K=>?_;simp(disch:=omega) only[kd,cY,tZ,aa,ab];apply K
 (refine aW ⟨.inr rfl,bW rfl ?_ rfl⟩;simp(disch:=omega) only[kd,results78,ab,aa])
def dblL:List Nat->Nat->List Nat
 |[],b=>[b]
 |x::l,b=>(2*x+b)%4294967296::dblL l (x/2147483648)
theorem zE: ∀(l:List Nat) (b:Nat),Lmb l->b<=1->natV (dblL l b)=2*natV l+b
 |[],b,_,_=>by simp[dblL,natV]
 |x::l,b,c,e=>by
  rw[du]at c;have f:=c.1;simp only[dblL,natV,zE l (x/2147483648) c.2 (by omega)];omega
theorem DO: ∀(l:List Nat) (b:Nat),Lmb l->b<=1->Lmb (dblL l b)
 |[],b,_,e=>by grind [dblL,Lmb]
 |x::l,b,c,e=>by
  rw[du]at c;have f:=c.1;rw[dblL,du];exact⟨aaQ _ (by omega),DO l _ c.2 (by omega)⟩
theorem Di: ∀(l:List Nat) (b:Nat),(dblL l b).length=l.length+1
 |[],b=>rfl
 |x::l,b=>by simp[dblL,Di l]
theorem sU (a b n:Nat) (h:b<2^n):(a*2^n)|||b=a*2^n+b:=by
 have:=Nat.shiftLeft_add_eq_or_of_lt h a;grind [Nat.shiftLeft_eq]
theorem uK (a b n:Nat) (h:b<2^n):b|||(a*2^n)=a*2^n+b:=by rw[Nat.or_comm,sU a b n h]
theorem Y0 (a b:Nat) (c:a<4294967296) (f:b<4294967296):IntKind.u32.wrap (((BitVec.ofInt IntKind.u32.bits (a:Int)|||BitVec.ofInt IntKind.u32.bits (b:Int)).toNat:Nat):Int)=((a|||b:Nat):Int):=by
 rw[E7];show(((BitVec.ofInt 32 (a:Int)|||BitVec.ofInt 32 (b:Int)).toNat%4294967296:Nat):Int)=_;rw[BitVec.toNat_or];have e: ∀x:Nat,x<4294967296->(BitVec.ofInt 32 (x:Int)).toNat=x:=fun x g=>by grind
 grind
theorem BA (a b:Nat) (c:a<18446744073709551616) (f:b<18446744073709551616):IntKind.u64.wrap (((BitVec.ofInt IntKind.u64.bits (a:Int)|||BitVec.ofInt IntKind.u64.bits (b:Int)).toNat:Nat):Int)=((a|||b:Nat):Int):=by
 rw[aa1];show((BitVec.ofInt 64 (a:Int)|||BitVec.ofInt 64 (b:Int)).toNat:Int)%_=_;rw[BitVec.toNat_or];have e: ∀x:Nat,x<18446744073709551616->(BitVec.ofInt 64 (x:Int)).toNat=x:=fun x g=>by grind
 grind
theorem Yz (a b:Nat) (c:a<4294967296) (e:b<4294967296):IntKind.u32.wrap (((BitVec.ofInt IntKind.u32.bits (a:Int)&&&BitVec.ofInt IntKind.u32.bits (b:Int)).toNat:Nat):Int)=((a&&&b:Nat):Int):=by
 rw[E7];show(((BitVec.ofInt 32 (a:Int)&&&BitVec.ofInt 32 (b:Int)).toNat%4294967296:Nat):Int)=_;grind [Nat.and_le_left]
structure Zx (l:List Nat) (b:Nat) where
 i:Nat
 o:List Nat
 c:Nat
 hi:i<=l.length
 hc:c<=1
 ho:o.length=i
 h:o++dblL (l.drop i) c=dblL l b
theorem NU (l:List Nat) (b:Nat) (u:Lmb l) (r:b<=1) (v:l.length<=1073741824):CallC prog 221 [cY l,.raw (.int .u32 (b:Int))] ⟨[],cY (dblL l b)⟩:=by
 refine aA func221 rfl ntmps221 (aC (k:=bC (k:=ai (bC (k:=?_)))));refine aB (G:=Zx l b) (fun g=>⟨(cY l::.raw (.int .u32 (g.c:Int))::jk::jk::.raw (.slice none 0 0)::.one (.sl 20 0 0 g.o.length)::jk::jk::cY l::rN l.length::rN g.i::j16 (jk::[])),Hm [(20,[⟨165,1,lc fU g.o⟩])]⟩) (fun g=>l.length-g.i) ⟨0,[],b,by omega,r,rfl,rfl⟩ ?_ ?_
 ·refine(dZ (k:=5) (d:=20) 165 1 (by omega) rfl rfl).trans (aj ⟨rfl,trivial⟩ ?_);simp[wk]
 rintro⟨i,o,c,x,w,t,h⟩;simp only;by_cases s:i<l.length
 ·obtain⟨a,e⟩:=getElem?_of_lt s;have q:=bZ u e;have m:IntKind.u32.wrap ((a:Int)*2^min 1 IntKind.u32.bits)=((2*a%4294967296:Nat):Int):=by
   rw[<- E7];congr 1;show(a:Int)*2=_;omega
  have f:=Y0 (2*a%4294967296) c (by omega) (by omega);have n:(2*a%4294967296)|||c=(2*a+c)%4294967296:=by
   have:=sU (a%2147483648) c 1 (by omega);grind
  rw[n]at f;have p:Int.fdiv (a:Int) (2^(min 31 IntKind.u32.bits))=((a/2147483648:Nat):Int):=by
   show Int.fdiv (a:Int) 2147483648=_;grind
  refine ar (k:=be rfl (ai (am (aL e (k:=aL (aH m (aH f @i4)) (k:=jm p (k:=bS (k:=?_))))))));refine⟨⟨i+1,o++[(2*a+c)%4294967296],a/2147483648,by omega,by omega,by simp[t],?_⟩,by simp only;omega,aj ⟨rfl,trivial⟩ ?_⟩
  ·rw[<- h,dQ e,dblL,aaM];rfl
  simp[wk]
 refine ar (k:=bv rfl (aL @i4 (k:=?_)));have j:dblL l b=o++[c]:=by grind [dblL]
 (refine aW ⟨.inr rfl,jt 20 (bO rfl) ?_ rfl⟩;simp(disch:=omega) only[kd,results221,cY])
 grind
structure Yo (l:List Nat) where
 i:Nat
 u:Nat
 hi:i<=l.length/\i<=2
 hu:u=natV (l.take i)
theorem eZ (h:Lmb b) (k:Nat):natV (b.take k)<4294967296^k:=by
 grind [Lmb,gy,Nat.lt_of_lt_of_le,Nat.pow_le_pow_right,List.length_take]
theorem ON (l:List Nat) (o:Lmb l) (s:l.length<=1073741824):CallC prog 73 [cY l] ⟨[],.raw (.int .u64 (natV (l.take 2):Nat))⟩:=by
 refine aA func73 rfl ntmps73 (aC (k:=bC (k:=ai (bC (k:=?_)))));refine aB (G:=Yo l) (fun g=>⟨(cY l::jk::.raw (.int .u64 0)::.raw (.int .u64 (g.u:Int))::rN g.i::j16 (j4 (jk::[]))),Hm []⟩) (fun g=>l.length-g.i) ⟨0,0,⟨by omega,by omega⟩,rfl⟩ ?_ ?_
 ·refine aj trivial ?_;simp[wk]
 rintro⟨i,u,v,n⟩;simp only;have b:=eZ o i;rw[<- n]at b;by_cases m:i<l.length/\i<2
 ·obtain⟨a,f⟩:=getElem?_of_lt m.1;have p:=bZ o f;have r:=m.2;have q:=m.1;have hu2:=bj f;rw[<- n]at hu2;refine ai (ar (k:=ay rfl (ak (ai (am ?_)))));have j:i=0\/i=1:=by omega
  rcases j with rfl|rfl
  ·have h:IntKind.u64.wrap ((a:Int)*2^min (32*((0:Nat):Int)).toNat IntKind.u64.bits)=(a:Int):=by
    grind [IntKind.wrap_u64]
   have hu0:u=0:=by omega
   have c:=BA u a (by omega) (by omega);rw[hu0,Nat.zero_or,<- hu0]at c;refine eK (aH f (aH h c)) (k:=bS (k:=?_));refine⟨⟨1,a,⟨by omega,by omega⟩,by grind⟩,by grind,aj trivial ?_⟩;simp[wk]
  have h:IntKind.u64.wrap ((a:Int)*2^min (32*((1:Nat):Int)).toNat IntKind.u64.bits)=((a*4294967296:Nat):Int):=by
   rw[aa1];show((a:Int)*4294967296)%_=_;omega
  simp only[Nat.pow_one]at b;have c:=BA u (a*4294967296) (by omega) (by omega);rw[show a*4294967296=a*2^32 from rfl,uK _ _ _ b,show a*2^32=a*4294967296 from rfl]at c;refine eK (aH f (aH h c)) (k:=bS (k:=?_));refine⟨⟨2,a*4294967296+u,⟨by omega,by omega⟩,by grind⟩,by grind,aj trivial ?_⟩;simp[wk]
 have e:u=natV (l.take 2):=by
  grind
 rw[<- e];by_cases t:i<l.length
 ·refine ai (ar (k:=aq rfl (aZ (bC (k:=aD @results73)))))
 refine ai (ar (k:=aq rfl (aZ (bC (k:=aD @results73)))))
def jF (z:Int):TV:=if -9223372036854775808<=z/\z<=9223372036854775807 then .tup [(false,[.p (.raw (.int .i64 z))]),(false,[.p (.raw (.bool true))])]else .tup [(false,[.p (.raw (.int .i64 0))]),(false,[.p (.raw (.bool false))])]
theorem wN (h:2<(au n).length):18446744073709551616<=n:=by
 grind [au]
theorem gP {n:Nat} (h:(au n).length<=2):n<18446744073709551616:=by
 grind [au]
theorem RH (z:Int) (h:Bg z):CallC prog 33 [tZ z] ⟨[],jF z⟩:=by
 have b:=jv (au z.natAbs) h.len;rw[ii]at b;have c:=ON (au z.natAbs) (aE _) h.len;have l:=h.len;by_cases g:2<(au z.natAbs).length
 ·have j:=wN g;rw[show jF z= .tup [(false,[.p (.raw (.int .i64 0))]),(false,[.p (.raw (.bool false))])] by grind [jF]];refine aA func33 rfl ntmps33 (aC (k:=bK [⟨2,_,_,_,b⟩] (k:=bK [⟨1,_,_,_,c⟩] (k:=ai (am (ar (k:=ay rfl (bC (k:=aD @results33)))))))))
 have j:=gP (n:=z.natAbs) (by omega);rw[aaz (by omega),az]at c;by_cases m:z<0
 ·have e:IntKind.i64.wrap (IntKind.u64.wrap (0-(z.natAbs:Int)))=z\/9223372036854775808<z.natAbs:=by
   grind [IntKind.wrap_u64,IntKind.wrap_i64]
  by_cases f:z.natAbs<=9223372036854775808
  ·replace e:=e.resolve_right (by omega)
   rw[show jF z= .tup [(false,[.p (.raw (.int .i64 z))]),(false,[.p (.raw (.bool true))])] by grind [jF]];refine aA func33 rfl ntmps33 (aC (k:=bK [⟨2,_,_,_,b⟩] (k:=bK [⟨1,_,_,_,c⟩] (k:=ai (am (ar (k:=aq rfl (ar (k:=ay rfl (f9 e (k:=aD @results33)))))))))))
  rw[show jF z= .tup [(false,[.p (.raw (.int .i64 0))]),(false,[.p (.raw (.bool false))])] by grind [jF]];refine aA func33 rfl ntmps33 (aC (k:=bK [⟨2,_,_,_,b⟩] (k:=bK [⟨1,_,_,_,c⟩] (k:=ai (am (ar (k:=aq rfl (ar (k:=aq rfl (ar (k:=aq rfl (ak (bC (k:=aD @results33))))))))))))))
 by_cases f:z.natAbs<9223372036854775808
 ·have e:IntKind.i64.wrap (z.natAbs:Int)=z:=by rw[IntKind.wrap_i64];omega
  rw[show jF z= .tup [(false,[.p (.raw (.int .i64 z))]),(false,[.p (.raw (.bool true))])] by grind [jF]];refine aA func33 rfl ntmps33 (aC (k:=bK [⟨2,_,_,_,b⟩] (k:=bK [⟨1,_,_,_,c⟩] (k:=ai (am (ar (k:=aq rfl (ar (k:=aq rfl (ar (k:=ay rfl (f9 e (k:=aD @results33)))))))))))))
 rw[show jF z= .tup [(false,[.p (.raw (.int .i64 0))]),(false,[.p (.raw (.bool false))])] by grind [jF]];refine aA func33 rfl ntmps33 (aC (k:=bK [⟨2,_,_,_,b⟩] (k:=bK [⟨1,_,_,_,c⟩] (k:=ai (am (ar (k:=aq rfl (ar (k:=aq rfl (ar (k:=aq rfl (ak (bC (k:=aD @results33))))))))))))))
theorem pN: ∀{l:List Nat} {i x:Nat},Lmb l->l[i]?=some x->natV l/4294967296^i%4294967296=x
 |[],i,x,_,h=>by simp at h
 |a::l,0,x,b,h=>by
  grind [du,natV]
 |a::l,i+1,x,b,h=>by
  rw[du]at b;have c:=b.1;simp at h;have:=pN b.2 h;rw[abl,abB,<- abu];grind [natV]
theorem Pw (i:Nat):4294967296^i=2^(32*i):=by rw[Nat.pow_mul]
theorem Kx {a k:Nat} (h:(au a)[k/32]?=some n):n/2^(k%32)%2=a/2^k%2:=by
 have b:=pN (aE a) h;rw[az,Pw]at b;rw[<- Nat.toNat_testBit,<- Nat.toNat_testBit,<- b,show(4294967296:Nat)=2^32 from rfl,Nat.testBit_mod_two_pow,Nat.testBit_div_two_pow];grind
structure Vy (a b n:Nat) where
 t:Nat
 O:List Nat
 ht:t<=32*n
 len:O.length=n
 lmb:Lmb O
 val:natV O=a/2^t/b*2^t
theorem YM (a k:Nat):a/2^k=2*(a/2^(k+1))+a/2^k%2:=by
 rw[abl,<- abu];omega
theorem NP {a k:Nat} (j:0<n) (h:2*(a/2^(k+1)%n)+a/2^k%2<n):a/2^k/n=2*(a/2^(k+1)/n)/\a/2^k%n=2*(a/2^(k+1)%n)+a/2^k%2:=by
 have c:=YM a k;have f:=acn (a/2^(k+1)) n;generalize a/2^(k+1)=X at*
 generalize a/2^k%2=e at*
 generalize X%n=r at*
 generalize X/n=q at*
 have g:a/2^k=n*(2*q)+(2*r+e):=by grind
 grind [Nat.mul_add_div,Nat.div_eq_of_lt,Nat.mul_add_mod,Nat.mod_eq_of_lt]
theorem NO {a k:Nat} (f:0<n) (h:n<=2*(a/2^(k+1)%n)+a/2^k%2):a/2^k/n=2*(a/2^(k+1)/n)+1/\a/2^k%n=2*(a/2^(k+1)%n)+a/2^k%2-n:=by
 have j:=YM a k;have l:=acn (a/2^(k+1)) n;have o:a/2^(k+1)%n<n:=aaQ _ f;have m:a/2^k%2<2:=aaQ _ (by omega);generalize a/2^(k+1)=X at*
 generalize a/2^k%2=e at*
 generalize X%n=r at*
 generalize X/n=q at*
 have g:a/2^k=n*(2*q+1)+(2*r+e-n):=by grind
 have c:2*r+e-n<n:=by omega
 rw[g];exact⟨by rw[adS f,acO c,aa5],by rw[Nat.mul_add_mod,acz c]⟩
theorem SE {a c k:Nat} (e:0<n) (f:k+1<=32*c) (len:b.length=c) (lmb:Lmb b) (val:natV b=a/2^(k+1)/n*2^(k+1)) (h:2*(a/2^(k+1)%n)+a/2^k%2<n): ∃g:Vy a n c,g.t=k/\g.O=b:=
 ⟨⟨k,b,by omega,len,lmb,by grind [NP]⟩,rfl,rfl⟩
theorem SD {a c k x:Nat} (p:0<n) (u:k+1<=32*c) (len:b.length=c) (lmb:Lmb b) (val:natV b=a/2^(k+1)/n*2^(k+1)) (h:n<=2*(a/2^(k+1)%n)+a/2^k%2) (f:b[k/32]?=some x): ∃g:Vy a n c,g.t=k/\g.O=b.set (k/32) (x|||2^(k%32)):=by
 have j:=bZ lmb f;have r:k%32<32:=aaQ _ (by omega);have e:x|||2^(k%32)<4294967296:=Nat.or_lt_two_pow (n:=32) j (ad4 (by omega) r);refine⟨⟨k,b.set (k/32) (x|||2^(k%32)),by omega,by simp[len],Bj lmb e,?_⟩,rfl,rfl⟩;have l:=pN lmb f;have o:=qS b (k/32) (x|||2^(k%32)) x f;have m:2^(k+1)=2^(32*(k/32))*2^(k%32+1):=by rw[<- abP];grind
 rw[Pw]at l o;rw[(NO p h).1];generalize a/2^(k+1)/n=q at*
 have s:x=q%2^(31-k%32)*2^(k%32+1):=by
  rw[<- l,val,m,abB (2^(32*(k/32))),<- ab8,aei _ (abh (by omega))];rw[show(4294967296:Nat)=2^(31-k%32)*2^(k%32+1) by rw[<- abP,show 31-k%32+(k%32+1)=32 by omega],Nat.mul_mod_mul_right]
 grind [sU]
theorem zg {a:Nat} (h:(au a).length=n):a/2^(32*n)=0:=by
 grind [gy,aE,az,Pw,Nat.div_eq_of_lt]
end Go.Proofs.YtalmoejhjceflaaGreat
