/-
  Part 14 of a proof (walks and plain facts).
-/
import Derived.Test.YtalmoejhjceflaaGreatP12
set_option linter.all false
set_option maxRecDepth 100000
set_option maxHeartbeats 64000000
open Nat renaming reduceAdd → aa
open Nat renaming reduceEqDiff → ab
open List renaming replicate → ae
open Nat renaming reduceBEq → af
namespace Go.Proofs.YtalmoejhjceflaaGreat
open Go.RowKit Go.Proofs.Tryz
variable {n m:Nat} {b:List Nat} {x:Int} {c:List (List Int)} {e:FF}
def sumL:List Nat->List Nat->Nat->List Nat
 |[],[],c=>[c]
 |a::m,[],c=>(c+a)%4294967296::sumL m [] ((c+a)/4294967296)
 |[],b::n,c=>(c+b)%4294967296::sumL [] n ((c+b)/4294967296)
 |a::m,b::n,c=>(c+a+b)%4294967296::sumL m n ((c+a+b)/4294967296)
theorem k9: ∀(m n:List Nat) (c:Nat),natV (sumL m n c)=natV m+natV n+c
 |[],[],c=>by simp[sumL,natV]
 |a::m,[],c=>by simp only[sumL,natV,k9 m []];omega
 |[],b::n,c=>by simp only[sumL,natV,k9 [] n];omega
 |a::m,b::n,c=>by simp only[sumL,natV,k9 m n];omega
theorem cY {a:Nat}:Lmb (a::b)↔a<4294967296/\Lmb b:=by simp[Lmb]
theorem m0: ∀(m n:List Nat) (c:Nat),Lmb m->Lmb n->c<=1->Lmb (sumL m n c)
 |[],[],c,_,_,g=>by grind [sumL,Lmb]
 |a::m,[],c,e,f,g=>by
  rw[cY]at e;rw[sumL,cY];exact⟨Yk _ (by omega),m0 m [] _ e.2 f (by omega)⟩
 |[],b::n,c,e,f,g=>by
  rw[cY]at f;rw[sumL,cY];exact⟨Yk _ (by omega),m0 [] n _ e f.2 (by omega)⟩
 |a::m,b::n,c,e,f,g=>by
  rw[cY]at e f;rw[sumL,cY];exact⟨Yk _ (by omega),m0 m n _ e.2 f.2 (by omega)⟩
theorem qE: ∀(m n:List Nat) (c:Nat),(sumL m n c).length=max m.length n.length+1
 |[],[],c=>by simp[sumL]
 |a::m,[],c=>by simp[sumL,qE m []]
 |[],b::n,c=>by simp[sumL,qE [] n]
 |a::m,b::n,c=>by simp[sumL,qE m n]
theorem dz {i a:Nat} (h:b[i]?=some a):b.drop i=a::b.drop (i+1):=by
 grind [List.drop_eq_getElem_cons]
theorem dN {i:Nat} (h:b.length<=i):b.drop i=[]:=ZF.2 h
theorem bT {i a:Nat} (c:Lmb b) (h:b[i]?=some a):a<4294967296:=c a (XH h)
theorem Dy (x:Nat):IntKind.u32.wrap (x:Int)=((x%4294967296:Nat):Int):=by rfl
theorem KD (x:Nat):(x:Int).fdiv (2^(min 32 IntKind.u64.bits))=((x/4294967296:Nat):Int):=by
 show Int.fdiv (x:Int) 4294967296=_;grind
structure Wz (m n:List Nat) where
 i:Nat
 o:List Nat
 c:Nat
 hi:i<=max m.length n.length
 hc:c<=1
 ho:o.length=i
 h:o++sumL (m.drop i) (n.drop i) c=sumL m n 0
theorem V3 (m n:List Nat) (x:Lmb m) (t:Lmb n) (y:m.length<=1073741824) (z:n.length<=1073741824):
  CallC prog 172 [cL m,cL n] ⟨[],cL (sumL m n 0)⟩:=by
 refine aB func172 rfl ntmps172 (aC (k:=bH (k:=bH (k:=ai (bH (k:=?_))))));refine aG (G:=Wz m n) (fun g=>⟨(cL m::cL n::jk::jk::.raw (.slice none 0 0)::.one (.sl 46 0 0 g.o.length)::.raw (.int .u64 (g.c:Int))::rN g.i::j16 (j16 (j4 (j4 (j4 (jk::jk::[])))))),Hm [(46,[⟨165,1,lc fU g.o⟩])]⟩) (fun g=>max m.length n.length-g.i) ⟨0,[],0,by omega,by omega,rfl,rfl⟩ ?_ ?_
 ·refine(d6 (k:=5) (d:=46) 165 1 (by omega) rfl rfl).trans (aj ⟨rfl,trivial⟩ ?_);simp[wk]
 rintro⟨i,o,c,B,A,r,h⟩;simp only;have w:max m.length n.length<=1073741824:=by omega
 by_cases v:i<m.length
 ·obtain⟨a,l⟩:=getElem?_of_lt v;have u:=bT x l;refine ai (ar (k:=aD rfl (ak (ai (am (ai (ar (k:=aD rfl (dU l (k:=ai (bH (k:=?_))))))))))));by_cases q:i<n.length
  ·obtain⟨b,f⟩:=getElem?_of_lt q;have p:=bT t f;refine aW rfl (fun _=>?_) (fun h=>by simp at h<;>omega);refine dU f (k:=?_);show bs _ _ _ _;have e:IntKind.u32.wrap ((c:Int)+(a:Int)+(b:Int))=(((c+a+b)%4294967296:Nat):Int):=by rfl
   have j:Int.fdiv ((c:Int)+(a:Int)+(b:Int)) (2^(min 32 IntKind.u64.bits))=(((c+a+b)/4294967296:Nat):Int):=by rw[<- KD];rfl
   refine aK (aE e @iR) (k:=sW j (k:=bK (k:=?_)));refine⟨⟨i+1,o++[(c+a+b)%4294967296],(c+a+b)/4294967296,by omega,by omega,by simp[r],?_⟩,by simp only;omega,aj ⟨rfl,trivial⟩ ?_⟩
   ·rw[<- h,dz l,dz f,sumL,Ye];rfl
   simp[wk]
  refine aW rfl (fun h=>by simp at h<;>omega) (fun _=>ak ?_);show bs _ _ _ _;have e:IntKind.u32.wrap ((c:Int)+(a:Int))=(((c+a)%4294967296:Nat):Int):=by rfl
  have j:Int.fdiv ((c:Int)+(a:Int)) (2^(min 32 IntKind.u64.bits))=(((c+a)/4294967296:Nat):Int):=by rw[<- KD];rfl
  refine aK (aE e @iR) (k:=sW j (k:=bK (k:=?_)));refine⟨⟨i+1,o++[(c+a)%4294967296],(c+a)/4294967296,by omega,by omega,by simp[r],?_⟩,by simp only;omega,aj ⟨rfl,trivial⟩ ?_⟩
  ·rw[<- h,dz l,dN (by omega:n.length<=i),dN (by omega:n.length<=i+1),sumL,Ye];rfl
  simp[wk]
 by_cases q:i<n.length
 ·obtain⟨b,f⟩:=getElem?_of_lt q;have p:=bT t f;refine ai (ar (k:=aD rfl (ak (ai (am (ai (ar (k:=ao rfl (ak (ai (ar (k:=aD rfl (dU f (k:=?_))))))))))))));show bs _ _ _ _;have e:IntKind.u32.wrap ((c:Int)+(b:Int))=(((c+b)%4294967296:Nat):Int):=by rfl
  have j:Int.fdiv ((c:Int)+(b:Int)) (2^(min 32 IntKind.u64.bits))=(((c+b)/4294967296:Nat):Int):=by rw[<- KD];rfl
  refine aK (aE e @iR) (k:=sW j (k:=bK (k:=?_)));refine⟨⟨i+1,o++[(c+b)%4294967296],(c+b)/4294967296,by omega,by omega,by simp[r],?_⟩,by simp only;omega,aj ⟨rfl,trivial⟩ ?_⟩
  ·rw[<- h,dz f,dN (by omega:m.length<=i),dN (by omega:m.length<=i+1),sumL,Ye];rfl
  simp[wk]
 refine ai (ar (k:=ao rfl (be ?_)));show bs _ _ _ _;have e:IntKind.u32.wrap (c:Int)=(c:Int):=by rw[Dy];omega
 refine aK (aE e @iR) (k:=?_);have s:sumL m n 0=o++[c]:=by grind [dN,sumL]
 (refine aZ ⟨.inr rfl,jd 46 (bS rfl) ?_ rfl⟩;simp(disch:=omega) only[kd,results172,cL])
 grind
def diffL:List Nat->List Nat->Nat->List Nat
 |[],_,_=>[]
 |a::m,[],w=>(a+8589934592-w)%4294967296::diffL m [] (if a<w then 1 else 0)
 |a::m,b::n,w=>(a+8589934592-(w+b))%4294967296::diffL m n (if a<w+b then 1 else 0)
theorem iv: ∀(m n:List Nat) (w:Nat),Lmb m->Lmb n->w<=1->n.length<=m.length->natV n+w<=natV m->natV (diffL m n w)+(natV n+w)=natV m
 |[],[],w,_,_,_,_,h=>by grind [diffL,natV]
 |[],b::n,w,_,_,_,h,_=>by simp at h
 |a::m,[],w,c,e,g,f,h=>by
  rw[cY]at c;simp only[natV]at h;have:=iv m [] (if a<w then 1 else 0) c.2 e (by grind) (by simp) (by grind [natV]);grind [diffL,natV]
 |a::m,b::n,w,c,e,g,f,h=>by
  rw[cY]at c e;simp only[natV]at h;have:=iv m n (if a<w+b then 1 else 0) c.2 e.2 (by grind) (by grind) (by grind);grind [diffL,natV]
theorem jy: ∀(m n:List Nat) (w:Nat),Lmb (diffL m n w)
 |[],n,w=>by simp[diffL,Lmb]
 |a::m,[],w=>by rw[diffL,cY];exact⟨Yk _ (by omega),jy m [] _⟩
 |a::m,b::n,w=>by rw[diffL,cY];exact⟨Yk _ (by omega),jy m n _⟩
theorem jw: ∀(m n:List Nat) (w:Nat),(diffL m n w).length=m.length
 |[],n,w=>by simp[diffL]
 |a::m,[],w=>by simp[diffL,jw m []]
 |a::m,b::n,w=>by simp[diffL,jw m n]
structure Vg (m n:List Nat) where
 i:Nat
 o:List Nat
 c:Nat
 hi:i<=m.length
 hc:c<=1
 ho:o.length=i
 h:o++diffL (m.drop i) (n.drop i) c=diffL m n 0
theorem lU (m n:List Nat) (v:Lmb m) (w:Lmb n) (x:m.length<=1073741824) (y:n.length<=1073741824):
  CallC prog 173 [cL m,cL n] ⟨[],cL (diffL m n 0)⟩:=by
 refine aB func173 rfl ntmps173 (aC (k:=bH (k:=bH (k:=ai (bH (k:=?_))))));refine aG (G:=Vg m n) (fun g=>⟨(cL m::cL n::jk::jk::.raw (.slice none 0 0)::.one (.sl 37 0 0 g.o.length)::.raw (.int .u64 (g.c:Int))::rN g.i::j16 (j16 (j4 (jk::jk::[])))),Hm [(37,[⟨165,1,lc fU g.o⟩])]⟩) (fun g=>m.length-g.i) ⟨0,[],0,by omega,by omega,rfl,rfl⟩ ?_ ?_
 ·refine(d6 (k:=5) (d:=37) 165 1 (by omega) rfl rfl).trans (aj ⟨rfl,trivial⟩ ?_);simp[wk]
 rintro⟨i,o,c,A,z,l,h⟩;simp only;by_cases t:i<m.length
 ·obtain⟨a,f⟩:=getElem?_of_lt t;have r:=bT v f;refine ai (ar (k:=aD rfl (ak (ai (am (bH (k:=ai (bH (k:=?_)))))))));by_cases u:i<n.length
  ·obtain⟨b,j⟩:=getElem?_of_lt u;have s:=bT w j;refine aW rfl (fun _=>?_) (fun h=>by simp at h<;>omega);refine dU j (k:=?_);show bs _ _ _ _;have p:IntKind.u32.wrap (IntKind.u64.wrap ((a:Int)-((c:Int)+(b:Int))))=(((a+8589934592-(c+b))%4294967296:Nat):Int):=by rw[Zy,YE];omega
   refine aK (aE f (aE p @iR)) (k:=bH (k:=aK f (k:=?_)));by_cases e:a<c+b
   ·refine aW rfl (fun _=>?_) (fun h=>by simp at h<;>omega);refine bK (k:=bK (k:=?_));refine⟨⟨i+1,o++[(a+8589934592-(c+b))%4294967296],1,by omega,by omega,by simp[l],?_⟩,by simp only;omega,aj ⟨rfl,trivial⟩ ?_⟩
    ·rw[<- h,dz f,dz j,diffL,Ye,if_pos e];rfl
    simp[wk]
   refine aW rfl (fun h=>by simp at h<;>omega) (fun _=>ak ?_);show bs _ _ _ _;refine bK (k:=?_);refine⟨⟨i+1,o++[(a+8589934592-(c+b))%4294967296],0,by omega,by omega,by simp[l],?_⟩,by simp only;omega,aj ⟨rfl,trivial⟩ ?_⟩
   ·rw[<- h,dz f,dz j,diffL,Ye,if_neg e];rfl
   simp[wk]
  refine aW rfl (fun h=>by simp at h<;>omega) (fun _=>ak ?_);show bs _ _ _ _;have p:IntKind.u32.wrap (IntKind.u64.wrap ((a:Int)-(c:Int)))=(((a+8589934592-c)%4294967296:Nat):Int):=by rw[Zy,YE];omega
  refine aK (aE f (aE p @iR)) (k:=bH (k:=aK f (k:=?_)));by_cases e:a<c
  ·refine aW rfl (fun _=>?_) (fun h=>by simp at h<;>omega);refine bK (k:=bK (k:=?_));refine⟨⟨i+1,o++[(a+8589934592-c)%4294967296],1,by omega,by omega,by simp[l],?_⟩,by simp only;omega,aj ⟨rfl,trivial⟩ ?_⟩
   ·rw[<- h,dz f,dN (by omega:n.length<=i),dN (by omega:n.length<=i+1),diffL,Ye,if_pos e];rfl
   simp[wk]
  refine aW rfl (fun h=>by simp at h<;>omega) (fun _=>ak ?_);show bs _ _ _ _;refine bK (k:=?_);refine⟨⟨i+1,o++[(a+8589934592-c)%4294967296],0,by omega,by omega,by simp[l],?_⟩,by simp only;omega,aj ⟨rfl,trivial⟩ ?_⟩
  ·rw[<- h,dz f,dN (by omega:n.length<=i),dN (by omega:n.length<=i+1),diffL,Ye,if_neg e];rfl
  simp[wk]
 refine ai (ar (k:=ao rfl (be (bH (k:=?_)))));have q:diffL m n 0=o:=by grind [diffL]
 (refine aZ ⟨.inr rfl,jd 37 (bS rfl) ?_ rfl⟩;simp(disch:=omega) only[kd,results173,cL])
 grind
abbrev Bh (z:Int):Prop:=Sz z 536870912
theorem Bh.bg (h:Bh x):Bg x:=h.mono (by omega)
theorem Bh.len (h:Bh x):(aq x.natAbs).length<=536870912:=kY h
theorem Sz.neg {k:Nat} (h:Sz x k):Sz (-x) k:=by grind [Sz]
theorem Bh.neg (h:Bh x):Bh (-x):=Sz.neg h
theorem Lh {a:Int} (h:decide (a<0)=decide (x<0)):fH (decide (a<0)) (a.natAbs+x.natAbs)=a+x:=by
 grind [fH]
theorem BD {a:Int} (h:decide (a<0)≠decide (x<0)) (c:x.natAbs<=a.natAbs) {d:Nat} (e:d+(x.natAbs+0)=a.natAbs):fH (decide (a<0)) d=a+x:=by
 grind [fH]
theorem iU {m:List Nat} (f:Lmb b) (c:th m) (h:natV m<=natV b):m.length<=b.length:=by
 by_cases e:m.length<=b.length
 ·exact e
 have:=iV f c (by omega);omega
theorem xt (a b:Int) (o:Bh a) (p:Bh b):CallC prog 123 [tZ a,tZ b] ⟨[],tZ (a+b)⟩:=by
 have q:=o.len;have r:=p.len;have t1:=je (aq a.natAbs) o.bg.len;have t2:=je (aq b.natAbs) p.bg.len;rw[ib]at t1 t2;by_cases l:decide (a<0)=decide (b<0)
 ·have f:=V3 (aq a.natAbs) (aq b.natAbs) (aA _) (aA _) (by omega) (by omega);have e:=jN (decide (a<0)) (sumL (aq a.natAbs) (aq b.natAbs) 0) (m0 _ _ _ (aA _) (aA _) (by omega)) (by rw[qE];omega);rw[k9,ax,ax,YA,Lh l]at e;have c:(decide (a<0)==decide (b<0))=true:=by simp[l]
  refine aB func123 rfl ntmps123 (aC (k:=cQ [⟨2,_,_,_,t1⟩,⟨5,_,_,_,t2⟩] (k:=ai (aK c (k:=aD rfl (cQ [⟨4,_,_,_,f⟩,⟨5,_,_,_,e⟩] (k:=aF @results123)))))))
 have c:(decide (a<0)==decide (b<0))=false:=by grind
 have f:=Gt (aq a.natAbs) (aq b.natAbs) (aA _) (aA _) (bY _) (bY _) (by omega) (by omega);rw[ax,ax]at f;by_cases n:b.natAbs<=a.natAbs
 ·have m:0<=f7 a.natAbs b.natAbs:=by grind [f7]
  have e:=lU (aq a.natAbs) (aq b.natAbs) (aA _) (aA _) (by omega) (by omega);have g:=jN (decide (a<0)) (diffL (aq a.natAbs) (aq b.natAbs) 0) (jy _ _ _) (by rw[jw];omega);have j:=iv (aq a.natAbs) (aq b.natAbs) 0 (aA _) (aA _) (by omega) (iU (aA _) (bY _) (by grind [ax])) (by grind [ax]);rw[ax,ax]at j;rw[BD l n j]at g;refine aB func123 rfl ntmps123 (aC (k:=cQ [⟨2,_,_,_,t1⟩,⟨5,_,_,_,t2⟩] (k:=ai (aK c (k:=ao rfl (ak (ai (bL [⟨2,_,_,_,f⟩] (k:=aD rfl (cQ [⟨4,_,_,_,e⟩,⟨5,_,_,_,g⟩] (k:=aF @results123)))))))))))
 have m:f7 a.natAbs b.natAbs<0:=by grind [f7]
 have e:=lU (aq b.natAbs) (aq a.natAbs) (aA _) (aA _) (by omega) (by omega);have g:=jN (decide (b<0)) (diffL (aq b.natAbs) (aq a.natAbs) 0) (jy _ _ _) (by rw[jw];omega);have j:=iv (aq b.natAbs) (aq a.natAbs) 0 (aA _) (aA _) (by omega) (iU (aA _) (bY _) (by grind [ax])) (by grind [ax]);rw[ax,ax]at j;rw[BD (fun h=>l h.symm) (by omega) j,Int.add_comm]at g;refine aB func123 rfl ntmps123 (aC (k:=cQ [⟨2,_,_,_,t1⟩,⟨5,_,_,_,t2⟩] (k:=ai (aK c (k:=ao rfl (ak (ai (bL [⟨2,_,_,_,f⟩] (k:=ao rfl (ak (cQ [⟨4,_,_,_,e⟩,⟨5,_,_,_,g⟩] (k:=aF @results123))))))))))))
theorem RZ (a b:Int) (g:Bh a) (e:Bh b):CallC prog 77 [tZ a,tZ b] ⟨[],tZ (a-b)⟩:=by
 have f:=MQ b e.bg;have c:=xt a (-b) g e.neg;rw[<- abG]at c;refine aB func77 rfl ntmps77 (aC (k:=cQ [⟨2,_,_,_,f⟩,⟨3,_,_,_,c⟩] (k:=aF @results77)))
theorem pZ: ∀(l:List Nat) (k v o:Nat),l[k]?=some o->natV (l.set k v)+o*4294967296^k=natV l+v*4294967296^k
 |[],k,v,o,h=>by simp at h
 |a::l,0,v,o,h=>by grind [natV]
 |a::l,k+1,v,o,h=>by
  simp at h;have:=pZ l k v o h;simp only[List.set_cons_succ,natV,Zd];grind
theorem zT (h:Lmb b) {k:Nat} (e:n<4294967296):Lmb (b.set k n):=fun a c=>by
 rcases YO c with c|rfl
 ·exact h a c
 exact e
theorem vD (n:Nat):natV (ae n 0)=0:=by induction n with
 |zero=>rfl
 |succ n b=>simp[Z5,natV,b]
theorem aX {i a:Nat} (h:b[i]?=some a):natV (b.take (i+1))=natV (b.take i)+a*4294967296^i:=by
 grind [List.take_succ_eq_append_getElem,iT,natV]
theorem lX (n:Nat):ae n [AV.p (.raw (.int .u32 0))]=lc fU (ae n 0):=by simp[lc,fU]
theorem cX (l:List Nat) (k v:Nat):(lc fU l).set k [AV.p (.raw (.int .u32 (v:Int)))]=lc fU (l.set k v):=by simp_all[lc,fU]
structure Id (A B:List Nat) where
 i:Nat
 O:List Nat
 hi:i<=A.length
 len:O.length=A.length+B.length
 lmb:Lmb O
 val:natV O=natV (A.take i)*natV B
 zero: ∀k,i+B.length<=k->k<A.length+B.length->O[k]?=some 0
structure KL (A B:List Nat) (i a:Nat) where
 j:Nat
 O:List Nat
 c:Nat
 hj:j<=B.length
 len:O.length=A.length+B.length
 lmb:Lmb O
 hc:c<4294967296
 val:natV O+c*4294967296^(i+j)=natV (A.take i)*natV B+a*natV (B.take j)*4294967296^i
 zero: ∀k,i+B.length<=k->k<A.length+B.length->O[k]?=some 0
theorem nP {a:Nat} (c:a<4294967296) (e:n<4294967296):a*n<=18446744065119617025:=by
 have:a*n<=4294967295*4294967295:=Yn (by omega) (by omega);omega
theorem yh {B:List Nat} {i a:Nat} (g:KL b B i a) (r:B[g.j]?=some n) (q:g.O[i+g.j]?=some m) (x:i<b.length) (s:a<4294967296) (h:n<4294967296):
  ∃e:KL b B i a,e.j=g.j+1/\e.O=g.O.set (i+g.j) ((g.c+(a*n+m))%4294967296)/\e.c=(g.c+(a*n+m))/4294967296:=by
 have f:g.j<B.length:=(XN.1 r).1;have t:=bT g.lmb q;have v:=nP s h;have w:=g.hc;refine⟨⟨g.j+1,g.O.set (i+g.j) ((g.c+(a*n+m))%4294967296),(g.c+(a*n+m))/4294967296,f,by simp[g.len],zT g.lmb (Yk _ (by omega)),?_,?_,fun k l p=>?_⟩,rfl,rfl,rfl⟩
 ·omega
 ·have l:=pZ g.O (i+g.j) ((g.c+(a*n+m))%4294967296) m q;have p:=aX r;have u:=g.val;grind [Nat.mod_add_div]
 rw[Yy (by omega)];exact g.zero k l p
theorem yg {B:List Nat} {i a:Nat} (m:b[i]?=some a) (g:KL b B i a) (q: ¬g.j<B.length): ∃f:Id b B,f.i=i+1/\f.O=g.O.set (i+B.length) g.c:=by
 have n:=(XN.1 m).1;have o:=g.hj;have e:g.j=B.length:=by omega
 have p:=g.zero (i+B.length) (XY _) (by omega);refine⟨⟨i+1,g.O.set (i+B.length) g.c,n,by simp[g.len],zT g.lmb g.hc,?_,fun k l h=>?_⟩,rfl,rfl⟩
 ·have l:=pZ g.O (i+B.length) g.c 0 p;have h:=g.val;grind [aX]
 rw[Yy (by omega)];exact g.zero k (by omega) h
theorem G6 (a b:Int):fH (!(decide (a<0)==decide (b<0))) (a.natAbs*b.natAbs)=a*b:=by
 grind [fH]
abbrev A2 (neg:Bool) (A:List Nat):List OObj:=[⟨65,2,[[.p (.raw (.bool neg)),.p (.sl (ls fU A))]]⟩]
abbrev zu:List OObj:=[⟨65,2,[[.raw (.bool false),.raw (.slice none 0 0)]]⟩]
theorem mp (a b:Int) (P:Bh a) (C:Bh b):CallC prog 78 [tZ a,tZ b] ⟨[],tZ (a*b)⟩:=by
 have X:=P.len;have Y:=C.len;have t:=aA a.natAbs;have u:=aA b.natAbs;have vA:=ax a.natAbs;have vB:=ax b.natAbs;refine eD func78 rfl (by kernel_rfl) ?_;rw[ntmps78];refine au fun _ K=>?_;simp(disch:=omega) only[kd,aa,tZ,ae,ab];apply K
 generalize aq a.natAbs=A at*
 generalize aq b.natAbs=B at*
 have I:((A.length:Int)+(B.length:Int)).toNat=A.length+B.length:=by omega
 refine au fun _ K=>?_;simp(disch:=omega) only[kd,aa,ab,aP,I,lX];apply K
 refine ai (au fun _ K=>?_);simp(disch:=omega) only[kd,aa,ab];apply K;refine aG (G:=Id A B) (fun g=>⟨(jk::jk::.one (.ptr 2 0 0 0)::.one (.ptr 3 0 0 0)::.one (.ptr 4 0 0 0)::.one (.sl 18 0 0 (A.length+B.length))::j4 (j4 (j4 (jk::jk::cL A::rN A.length::rN g.i::j16 (j16 (j16 (j4 (jk::jk::[])))))))),Hm [(2,A2 (decide (a<0)) A),(3,A2 (decide (b<0)) B),(4,zu),(18,[⟨165,1,lc fU g.O⟩])]⟩) (fun g=>A.length-g.i) ⟨0,ae (A.length+B.length) 0,by omega,by simp,fun x f=>by simp at f;omega,by simp[vD,natV],fun k U N=>by rw[YF,if_pos N]⟩ ?_ ?_
 ·refine aj ⟨rfl,rfl,rfl,rfl,trivial⟩ ?_;simp[wk]
 rintro⟨i,O,V,len,lmb,val,zero⟩;simp only;by_cases E:i<A.length
 ·obtain⟨x,f⟩:=getElem?_of_lt E;have h:=bT t f;refine au fun _ K=>?_;simp(disch:=omega) only[kd,cL];apply K
  refine bA rfl ?_;refine ai (am ?_);refine au fun _ K=>?_;simp(disch:=omega) only[kd,aa,f];apply K
  refine au fun _ K=>?_;simp only[kd];apply K
  refine ai (au fun _ K=>?_);simp(disch:=omega) only[kd,aa,ab];apply K;refine aG (G:=KL A B i x) (fun g=>⟨(jk::jk::.one (.ptr 2 0 0 0)::.one (.ptr 3 0 0 0)::.one (.ptr 4 0 0 0)::.one (.sl 18 0 0 (A.length+B.length))::rN i::.raw (.int .u32 (x:Int))::.raw (.int .u64 (g.c:Int))::j4 (j4 (jk::jk::jk::cL A::rN A.length::rN i::j4 (jk::cL B::rN B.length::rN g.j::j16 (j16 (j4 (j4 (j4 (jk::jk::[]))))))))),Hm [(2,A2 (decide (a<0)) A),(3,A2 (decide (b<0)) B),(4,zu),(18,[⟨165,1,lc fU g.O⟩])]⟩) (fun g=>B.length-g.j) ⟨0,O,0,by omega,len,lmb,by omega,by simpa[natV] using val,zero⟩ ?_ ?_
  ·refine aj ⟨rfl,rfl,rfl,rfl,trivial⟩ ?_;simp[wk]
  intro g;by_cases F:g.j<B.length
  ·obtain⟨y,v⟩:=getElem?_of_lt F;have l:=bT u v;have D:=g.len;obtain⟨o,n⟩:=getElem?_of_lt (show i+g.j<g.O.length by omega);have S:=bT g.lmb n;have C:=nP h l;have s:=g.hc;obtain⟨r,H,w,Z⟩:=yh g v n E h l;have m:((i:Int)+(g.j:Int)).toNat=i+g.j:=by omega
   have J:(x:Int)*(y:Int)=((x*y:Nat):Int):=by simp
   generalize W:x*y=p at*
   have q:IntKind.u32.wrap ((g.c:Int)+((p:Int)+(o:Int)))=(((g.c+(p+o))%4294967296:Nat):Int):=by rfl
   have L:Int.fdiv ((g.c:Int)+((p:Int)+(o:Int))) (2^(min 32 IntKind.u64.bits))=(((g.c+(p+o))/4294967296:Nat):Int):=by grind [KD]
   refine au fun _ K=>?_;simp(disch:=omega) only[kd,cL];apply K
   refine bA rfl ?_;refine ai (am ?_);refine au fun _ K=>?_;simp(disch:=omega) only[kd,aa,v];apply K
   refine au fun _ K=>?_;simp(disch:=omega) only[kd,aa,cw,J,aP,m,ab,n];apply K
   refine au fun _ K=>?_;simp(disch:=omega) only[kd,aa,aP,q,m,ab,n,cX];apply K
   refine kP fun _ K=>?_;simp only[kd,aa,Int.reduceLE,Int.reduceToNat,L];apply K
   show bs _ _ _ _;refine kP fun _ K=>?_;simp(disch:=omega) only[kd,aP];apply K
   refine⟨r,by omega,aj ⟨rfl,rfl,rfl,by rw[w];rfl,trivial⟩ ?_⟩;simp_all[wk]
  have Q:=g.hj;have s:=g.hc;have R:=g.len;obtain⟨r,H,w⟩:=yg f g F;have m:((i:Int)+(B.length:Int)).toNat=i+B.length:=by omega
  have q:IntKind.u32.wrap (g.c:Int)=(g.c:Int):=by rw[Dy];omega
  refine au fun _ K=>?_;simp(disch:=omega) only[kd,cL];apply K
  refine bG rfl ?_;show bs _ _ _ _;have T:=g.zero (i+B.length) (XY _) (by omega);refine kP fun _ K=>?_;simp(disch:=omega) only[kd,aa,ab,aP,q,m,T,cX];apply K
  show bs _ _ _ _;refine kP fun _ K=>?_;simp(disch:=omega) only[kd,aP];apply K
  refine⟨r,by omega,aj ⟨rfl,rfl,rfl,by rw[w];rfl,trivial⟩ ?_⟩;simp[wk,H]
 have e:natV O=a.natAbs*b.natAbs:=by
  grind
 have z:=jN (!(decide (a<0)==decide (b<0))) O lmb (by omega);rw[e,G6]at z;refine au fun _ K=>?_;simp(disch:=omega) only[kd,cL];apply K
 refine bG rfl ?_;show bs _ _ _ _;refine bs.weak (bF 18 (bS rfl)) ?_;have M:List.take (A.length+B.length) O=O:=X3 (by omega);simp(disch:=omega) only[kd,tZ,ab,M];refine bj [⟨6,_,_,_,z⟩] [] fun _ K=>?_;simp(disch:=omega) only[kd,cL,tZ,aa,ab];apply K
 (refine aZ ⟨.inr rfl,b9 rfl ?_ rfl⟩;simp(disch:=omega) only[kd,results78,ab,aa])
def dblL:List Nat->Nat->List Nat
 |[],b=>[b]
 |x::l,b=>(2*x+b)%4294967296::dblL l (x/2147483648)
theorem ym: ∀(l:List Nat) (b:Nat),Lmb l->b<=1->natV (dblL l b)=2*natV l+b
 |[],b,_,_=>by simp[dblL,natV]
 |x::l,b,c,e=>by
  rw[cY]at c;have f:=c.1;simp only[dblL,natV,ym l (x/2147483648) c.2 (by omega)];omega
theorem Cw: ∀(l:List Nat) (b:Nat),Lmb l->b<=1->Lmb (dblL l b)
 |[],b,_,e=>by grind [dblL,Lmb]
 |x::l,b,c,e=>by
  rw[cY]at c;have f:=c.1;rw[dblL,cY];exact⟨Yk _ (by omega),Cw l _ c.2 (by omega)⟩
theorem BT: ∀(l:List Nat) (b:Nat),(dblL l b).length=l.length+1
 |[],b=>rfl
 |x::l,b=>by simp[dblL,BT l]
theorem rI (a b n:Nat) (h:b<2^n):(a*2^n)|||b=a*2^n+b:=by
 have:=Nat.shiftLeft_add_eq_or_of_lt h a;grind [Nat.shiftLeft_eq]
theorem tI (a b n:Nat) (h:b<2^n):b|||(a*2^n)=a*2^n+b:=by rw[Nat.or_comm,rI a b n h]
theorem VU (a b:Nat) (c:a<4294967296) (f:b<4294967296):IntKind.u32.wrap (((BitVec.ofInt IntKind.u32.bits (a:Int)|||BitVec.ofInt IntKind.u32.bits (b:Int)).toNat:Nat):Int)=((a|||b:Nat):Int):=by
 rw[Dy];show(((BitVec.ofInt 32 (a:Int)|||BitVec.ofInt 32 (b:Int)).toNat%4294967296:Nat):Int)=_;rw[BitVec.toNat_or];have e: ∀x:Nat,x<4294967296->(BitVec.ofInt 32 (x:Int)).toNat=x:=fun x g=>by grind
 grind
theorem Ah (a b:Nat) (c:a<18446744073709551616) (f:b<18446744073709551616):IntKind.u64.wrap (((BitVec.ofInt IntKind.u64.bits (a:Int)|||BitVec.ofInt IntKind.u64.bits (b:Int)).toNat:Nat):Int)=((a|||b:Nat):Int):=by
 rw[YE];show((BitVec.ofInt 64 (a:Int)|||BitVec.ofInt 64 (b:Int)).toNat:Int)%_=_;rw[BitVec.toNat_or];have e: ∀x:Nat,x<18446744073709551616->(BitVec.ofInt 64 (x:Int)).toNat=x:=fun x g=>by grind
 grind
theorem Vx (a b:Nat) (c:a<4294967296) (e:b<4294967296):IntKind.u32.wrap (((BitVec.ofInt IntKind.u32.bits (a:Int)&&&BitVec.ofInt IntKind.u32.bits (b:Int)).toNat:Nat):Int)=((a&&&b:Nat):Int):=by
 rw[Dy];show(((BitVec.ofInt 32 (a:Int)&&&BitVec.ofInt 32 (b:Int)).toNat%4294967296:Nat):Int)=_;grind [Nat.and_le_left]
structure Wu (l:List Nat) (b:Nat) where
 i:Nat
 o:List Nat
 c:Nat
 hi:i<=l.length
 hc:c<=1
 ho:o.length=i
 h:o++dblL (l.drop i) c=dblL l b
theorem LJ (l:List Nat) (b:Nat) (u:Lmb l) (r:b<=1) (v:l.length<=1073741824):CallC prog 221 [cL l,.raw (.int .u32 (b:Int))] ⟨[],cL (dblL l b)⟩:=by
 refine aB func221 rfl ntmps221 (aC (k:=bH (k:=ai (bH (k:=?_)))));refine aG (G:=Wu l b) (fun g=>⟨(cL l::.raw (.int .u32 (g.c:Int))::jk::jk::.raw (.slice none 0 0)::.one (.sl 20 0 0 g.o.length)::jk::jk::cL l::rN l.length::rN g.i::j16 (jk::[])),Hm [(20,[⟨165,1,lc fU g.o⟩])]⟩) (fun g=>l.length-g.i) ⟨0,[],b,by omega,r,rfl,rfl⟩ ?_ ?_
 ·refine(d6 (k:=5) (d:=20) 165 1 (by omega) rfl rfl).trans (aj ⟨rfl,trivial⟩ ?_);simp[wk]
 rintro⟨i,o,c,x,w,t,h⟩;simp only;by_cases s:i<l.length
 ·obtain⟨a,e⟩:=getElem?_of_lt s;have q:=bT u e;have m:IntKind.u32.wrap ((a:Int)*2^min 1 IntKind.u32.bits)=((2*a%4294967296:Nat):Int):=by
   rw[<- Dy];congr 1;show(a:Int)*2=_;omega
  have f:=VU (2*a%4294967296) c (by omega) (by omega);have n:(2*a%4294967296)|||c=(2*a+c)%4294967296:=by
   have:=rI (a%2147483648) c 1 (by omega);grind
  rw[n]at f;have p:Int.fdiv (a:Int) (2^(min 31 IntKind.u32.bits))=((a/2147483648:Nat):Int):=by
   show Int.fdiv (a:Int) 2147483648=_;grind
  refine ar (k:=bA rfl (ai (am (aK e (k:=aK (aE m (aE f @iR)) (k:=sW p (k:=bK (k:=?_))))))));refine⟨⟨i+1,o++[(2*a+c)%4294967296],a/2147483648,by omega,by omega,by simp[t],?_⟩,by simp only;omega,aj ⟨rfl,trivial⟩ ?_⟩
  ·rw[<- h,dz e,dblL,Ye];rfl
  simp[wk]
 refine ar (k:=bG rfl (aK @iR (k:=?_)));have j:dblL l b=o++[c]:=by grind [dblL]
 (refine aZ ⟨.inr rfl,jd 20 (bS rfl) ?_ rfl⟩;simp(disch:=omega) only[kd,results221,cL])
 grind
structure Vm (l:List Nat) where
 i:Nat
 u:Nat
 hi:i<=l.length/\i<=2
 hu:u=natV (l.take i)
theorem eu (h:Lmb b) (k:Nat):natV (b.take k)<4294967296^k:=by
 grind [Lmb,fW,Nat.lt_of_lt_of_le,Nat.pow_le_pow_right,List.length_take]
theorem Mx (l:List Nat) (o:Lmb l) (s:l.length<=1073741824):CallC prog 73 [cL l] ⟨[],.raw (.int .u64 (natV (l.take 2):Nat))⟩:=by
 refine aB func73 rfl ntmps73 (aC (k:=bH (k:=ai (bH (k:=?_)))));refine aG (G:=Vm l) (fun g=>⟨(cL l::jk::.raw (.int .u64 0)::.raw (.int .u64 (g.u:Int))::rN g.i::j16 (j4 (jk::[]))),Hm []⟩) (fun g=>l.length-g.i) ⟨0,0,⟨by omega,by omega⟩,rfl⟩ ?_ ?_
 ·refine aj trivial ?_;simp[wk]
 rintro⟨i,u,v,n⟩;simp only;have b:=eu o i;rw[<- n]at b;by_cases m:i<l.length/\i<2
 ·obtain⟨a,f⟩:=getElem?_of_lt m.1;have p:=bT o f;have r:=m.2;have q:=m.1;have hu2:=aX f;rw[<- n]at hu2;refine ai (ar (k:=aD rfl (ak (ai (am ?_)))));have j:i=0\/i=1:=by omega
  rcases j with rfl|rfl
  ·have h:IntKind.u64.wrap ((a:Int)*2^min (32*((0:Nat):Int)).toNat IntKind.u64.bits)=(a:Int):=by
    grind [IntKind.wrap_u64]
   have hu0:u=0:=by omega
   have c:=Ah u a (by omega) (by omega);rw[hu0,Nat.zero_or,<- hu0]at c;refine dU (aE f (aE h c)) (k:=bK (k:=?_));refine⟨⟨1,a,⟨by omega,by omega⟩,by grind⟩,by grind,aj trivial ?_⟩;simp[wk]
  have h:IntKind.u64.wrap ((a:Int)*2^min (32*((1:Nat):Int)).toNat IntKind.u64.bits)=((a*4294967296:Nat):Int):=by
   rw[YE];show((a:Int)*4294967296)%_=_;omega
  simp only[Nat.pow_one]at b;have c:=Ah u (a*4294967296) (by omega) (by omega);rw[show a*4294967296=a*2^32 from rfl,tI _ _ _ b,show a*2^32=a*4294967296 from rfl]at c;refine dU (aE f (aE h c)) (k:=bK (k:=?_));refine⟨⟨2,a*4294967296+u,⟨by omega,by omega⟩,by grind⟩,by grind,aj trivial ?_⟩;simp[wk]
 have e:u=natV (l.take 2):=by
  grind
 rw[<- e];by_cases t:i<l.length
 ·refine ai (ar (k:=ao rfl (be (bH (k:=aF @results73)))))
 refine ai (ar (k:=ao rfl (be (bH (k:=aF @results73)))))
def jq (z:Int):TV:=if -9223372036854775808<=z/\z<=9223372036854775807 then .tup [(false,[.p (.raw (.int .i64 z))]),(false,[.p (.raw (.bool true))])]else .tup [(false,[.p (.raw (.int .i64 0))]),(false,[.p (.raw (.bool false))])]
theorem vy (h:2<(aq n).length):18446744073709551616<=n:=by
 grind [aq]
theorem gz {n:Nat} (h:(aq n).length<=2):n<18446744073709551616:=by
 grind [aq]
theorem O3 (z:Int) (h:Bg z):CallC prog 33 [tZ z] ⟨[],jq z⟩:=by
 have b:=je (aq z.natAbs) h.len;rw[ib]at b;have c:=Mx (aq z.natAbs) (aA _) h.len;have l:=h.len;by_cases g:2<(aq z.natAbs).length
 ·have j:=vy g;rw[show jq z= .tup [(false,[.p (.raw (.int .i64 0))]),(false,[.p (.raw (.bool false))])] by grind [jq]];refine aB func33 rfl ntmps33 (aC (k:=bQ [⟨2,_,_,_,b⟩] (k:=bQ [⟨1,_,_,_,c⟩] (k:=ai (am (ar (k:=aD rfl (bH (k:=aF @results33)))))))))
 have j:=gz (n:=z.natAbs) (by omega);rw[X3 (by omega),ax]at c;by_cases m:z<0
 ·have e:IntKind.i64.wrap (IntKind.u64.wrap (0-(z.natAbs:Int)))=z\/9223372036854775808<z.natAbs:=by
   grind [IntKind.wrap_u64,IntKind.wrap_i64]
  by_cases f:z.natAbs<=9223372036854775808
  ·replace e:=e.resolve_right (by omega)
   rw[show jq z= .tup [(false,[.p (.raw (.int .i64 z))]),(false,[.p (.raw (.bool true))])] by grind [jq]];refine aB func33 rfl ntmps33 (aC (k:=bQ [⟨2,_,_,_,b⟩] (k:=bQ [⟨1,_,_,_,c⟩] (k:=ai (am (ar (k:=ao rfl (ar (k:=aD rfl (f5 e (k:=aF @results33)))))))))))
  rw[show jq z= .tup [(false,[.p (.raw (.int .i64 0))]),(false,[.p (.raw (.bool false))])] by grind [jq]];refine aB func33 rfl ntmps33 (aC (k:=bQ [⟨2,_,_,_,b⟩] (k:=bQ [⟨1,_,_,_,c⟩] (k:=ai (am (ar (k:=ao rfl (ar (k:=ao rfl (ar (k:=ao rfl (ak (bH (k:=aF @results33))))))))))))))
 by_cases f:z.natAbs<9223372036854775808
 ·have e:IntKind.i64.wrap (z.natAbs:Int)=z:=by rw[IntKind.wrap_i64];omega
  rw[show jq z= .tup [(false,[.p (.raw (.int .i64 z))]),(false,[.p (.raw (.bool true))])] by grind [jq]];refine aB func33 rfl ntmps33 (aC (k:=bQ [⟨2,_,_,_,b⟩] (k:=bQ [⟨1,_,_,_,c⟩] (k:=ai (am (ar (k:=ao rfl (ar (k:=ao rfl (ar (k:=aD rfl (f5 e (k:=aF @results33)))))))))))))
 rw[show jq z= .tup [(false,[.p (.raw (.int .i64 0))]),(false,[.p (.raw (.bool false))])] by grind [jq]];refine aB func33 rfl ntmps33 (aC (k:=bQ [⟨2,_,_,_,b⟩] (k:=bQ [⟨1,_,_,_,c⟩] (k:=ai (am (ar (k:=ao rfl (ar (k:=ao rfl (ar (k:=ao rfl (ak (bH (k:=aF @results33))))))))))))))
theorem oW: ∀{l:List Nat} {i x:Nat},Lmb l->l[i]?=some x->natV l/4294967296^i%4294967296=x
 |[],i,x,_,h=>by simp at h
 |a::l,0,x,b,h=>by
  grind [cY,natV]
 |a::l,i+1,x,b,h=>by
  rw[cY]at b;have c:=b.1;simp at h;have:=oW b.2 h;rw[Zd,YQ,<- Y7];grind [natV]
theorem Na (i:Nat):4294967296^i=2^(32*i):=by rw[Nat.pow_mul]
theorem Iz {a k:Nat} (h:(aq a)[k/32]?=some n):n/2^(k%32)%2=a/2^k%2:=by
 have b:=oW (aA a) h;rw[ax,Na]at b;rw[<- Nat.toNat_testBit,<- Nat.toNat_testBit,<- b,show(4294967296:Nat)=2^32 from rfl,Nat.testBit_mod_two_pow,Nat.testBit_div_two_pow];grind
structure SQ (a b n:Nat) where
 t:Nat
 O:List Nat
 ht:t<=32*n
 len:O.length=n
 lmb:Lmb O
 val:natV O=a/2^t/b*2^t
theorem VJ (a k:Nat):a/2^k=2*(a/2^(k+1))+a/2^k%2:=by
 rw[Zd,<- Y7];omega
theorem LH {a k:Nat} (j:0<n) (h:2*(a/2^(k+1)%n)+a/2^k%2<n):a/2^k/n=2*(a/2^(k+1)/n)/\a/2^k%n=2*(a/2^(k+1)%n)+a/2^k%2:=by
 have c:=VJ a k;have f:=Zv (a/2^(k+1)) n;generalize a/2^(k+1)=X at*
 generalize a/2^k%2=e at*
 generalize X%n=r at*
 generalize X/n=q at*
 have g:a/2^k=n*(2*q)+(2*r+e):=by grind
 grind [Nat.mul_add_div,Nat.div_eq_of_lt,Nat.mul_add_mod,Nat.mod_eq_of_lt]
theorem LG {a k:Nat} (f:0<n) (h:n<=2*(a/2^(k+1)%n)+a/2^k%2):a/2^k/n=2*(a/2^(k+1)/n)+1/\a/2^k%n=2*(a/2^(k+1)%n)+a/2^k%2-n:=by
 have j:=VJ a k;have l:=Zv (a/2^(k+1)) n;have o:a/2^(k+1)%n<n:=Yk _ f;have m:a/2^k%2<2:=Yk _ (by omega);generalize a/2^(k+1)=X at*
 generalize a/2^k%2=e at*
 generalize X%n=r at*
 generalize X/n=q at*
 have g:a/2^k=n*(2*q+1)+(2*r+e-n):=by grind
 have c:2*r+e-n<n:=by omega
 rw[g];exact⟨by rw[aaL f,Z9 c,YA],by rw[aaM,ZC c]⟩
theorem PM {a k:Nat} (c:0<n) (e:k+1<=32*m) (len:b.length=m) (lmb:Lmb b) (val:natV b=a/2^(k+1)/n*2^(k+1)) (h:2*(a/2^(k+1)%n)+a/2^k%2<n): ∃g:SQ a n m,g.t=k/\g.O=b:=
 ⟨⟨k,b,by omega,len,lmb,by grind [LH]⟩,rfl,rfl⟩
theorem PL {a k x:Nat} (p:0<n) (u:k+1<=32*m) (len:b.length=m) (lmb:Lmb b) (val:natV b=a/2^(k+1)/n*2^(k+1)) (h:n<=2*(a/2^(k+1)%n)+a/2^k%2) (e:b[k/32]?=some x): ∃g:SQ a n m,g.t=k/\g.O=b.set (k/32) (x|||2^(k%32)):=by
 have f:=bT lmb e;have r:k%32<32:=Yk _ (by omega);have c:x|||2^(k%32)<4294967296:=Nat.or_lt_two_pow (n:=32) f (abu (by omega) r);refine⟨⟨k,b.set (k/32) (x|||2^(k%32)),by omega,by simp[len],zT lmb c,?_⟩,rfl,rfl⟩;have j:=oW lmb e;have o:=pZ b (k/32) (x|||2^(k%32)) x e;have l:2^(k+1)=2^(32*(k/32))*2^(k%32+1):=by rw[<- ZI];grind
 rw[Na]at j o;rw[(LG p h).1];generalize a/2^(k+1)/n=q at*
 have s:x=q%2^(31-k%32)*2^(k%32+1):=by
  rw[<- j,val,l,YQ (2^(32*(k/32))),<- ZP,abK _ (YP (by omega))];rw[show(4294967296:Nat)=2^(31-k%32)*2^(k%32+1) by rw[<- ZI,show 31-k%32+(k%32+1)=32 by omega],Nat.mul_mod_mul_right]
 grind [rI]
theorem xV {a:Nat} (h:(aq a).length=n):a/2^(32*n)=0:=by
 grind [fW,aA,ax,Na,Nat.div_eq_of_lt]
theorem Gs {a:Nat} (h:n<=a):0<=f7 a n:=by grind [f7]
theorem Lz {a b:Nat} (h:a<b):f7 a b<0:=by grind [nG]
abbrev BV (a b:Nat):TV:= .tup [(false,[.p (.sl (ls fU (aq (a/b))))]),(false,[.p (.sl (ls fU (aq (a%b))))])]
theorem oP {a:Nat} (h:a<=n):(aq a).length<=(aq n).length:=iU (aA _) (bY _) (by grind [ax])
theorem LI (a b:Nat) (s:0<b) (la:(aq a).length<=536870912) (lb:(aq b).length<=536870912):CallC prog 186 [cL (aq a),cL (aq b)] ⟨[],BV a b⟩:=by
 by_cases hs:(aq a).length<=2/\(aq b).length<=2
 ·obtain⟨U,V⟩:=hs;have ua:=gz U;have ub:=gz V;have p:=Mx (aq a) (aA _) (by omega);have e:=Mx (aq b) (aA _) (by omega);rw[X3 U,ax]at p;rw[X3 V,ax]at e;have C:a/b<=a:=ZW _ _;have D:a%b<b:=Yk _ s;have c:=AZ false (a/b) (by omega);have u:=AZ false (a%b) (by omega);rw[show fH false (a/b)=((a/b:Nat):Int)from rfl]at c;rw[show fH false (a%b)=((a%b:Nat):Int)from rfl]at u;have F:(b:Int)≠0:=by omega
  have z:IntKind.u64.wrap (Int.tdiv (a:Int) (b:Int))=((a/b:Nat):Int):=by
   grind [IntKind.wrap_u64]
  have A:Int.tmod (a:Int) (b:Int)=((a%b:Nat):Int):=by
   rfl
  unfold BV;generalize a/b=q at*
  generalize a%b=r at*
  refine aB func186 rfl ntmps186 (aC (k:=ai (ar (k:=aD rfl (bQ [⟨1,_,_,_,p⟩,⟨3,_,_,_,e⟩] (k:=j1 [⟨3,_,_,_,c⟩,⟨8,_,_,_,u⟩] (aE @Int.natAbs_natCast (aE (@ne_eq.{1}) (aE F (aE @not_false_eq_true (aE z A))))) (k:=aF @results186)))))))
 refine aB func186 rfl ntmps186 (aC (k:=?_));by_cases c:(aq a).length<=2
 all_goals
  (first|refine au fun _ K=>?_|refine ai (au fun _ K=>?_)|refine ai (ai (au fun _ K=>?_)));simp(disch:=omega) only[kd,aa];apply K
  first|refine ao rfl (ak ?_)|refine aW rfl (fun h=>by simp at h<;>omega) (fun _=>ak ?_)
  show bs _ _ _ _
  (first|refine au fun _ K=>?_|refine ai (au fun _ K=>?_)|refine ai (ai (au fun _ K=>?_)));simp(disch:=omega) only[kd,aa,lX];apply K
  (first|refine au fun _ K=>?_|refine ai (au fun _ K=>?_)|refine ai (ai (au fun _ K=>?_)));simp(disch:=omega) only[kd,aa,aP];apply K
  refine aG (G:=SQ a b (aq a).length) (fun g=>⟨(cL (aq a)::cL (aq b)::jk::jk::.one (.sl 33 0 0 (aq a).length)::cL (aq (a/2^g.t%b))::jk::jk::.raw (.int .i64 ((g.t:Int)-1))::j16 (j16 (j16 (j16 (jk::jk::[]))))),Hm [(33,[⟨165,1,lc fU g.O⟩])]⟩) (fun g=>g.t) ⟨32*(aq a).length,ae (aq a).length 0,by omega,by simp,fun x v=>by simp at v;omega,by rw[vD,xV rfl];simp⟩ ?_ ?_
  ·refine(d6 (k:=5) (d:=900) 165 1 (by omega) rfl rfl).trans ((bF 900 (bS (f:=fU) (l:=[]) rfl)).trans (aj ⟨rfl,trivial⟩ ?_));simp[wk,fb,dD,xV rfl,cf];rfl
  rintro⟨t,O,T,len,lmb,val⟩;simp only;cases t with
  |zero=>
   have o:=je O (by omega);rw[dS lmb,val]at o;simp only[abV,Nat.div_one,aa5]at o;simp only[abV,Nat.div_one]
   (first|refine au fun _ K=>?_|refine ai (au fun _ K=>?_)|refine ai (ai (au fun _ K=>?_)));simp(disch:=omega) only[kd,cL];apply K
   first|refine ao rfl (be ?_)|refine aW rfl (fun h=>by simp at h<;>omega) (fun _=>be ?_)
   show bs _ _ _ _;refine bs.weak (bF 33 (bS rfl)) ?_;have Y:List.take (aq a).length O=O:=X3 (by omega);simp(disch:=omega) only[kd,Y]
   (first|refine bj [⟨1,_,_,_,o⟩] [] fun _ K=>?_|refine ai (bj [⟨1,_,_,_,o⟩] [] fun _ K=>?_)|refine ai (ai (bj [⟨1,_,_,_,o⟩] [] fun _ K=>?_)));simp only[kd,cL,aa];apply K
   (refine aZ ⟨.inr rfl,b9 rfl ?_ rfl⟩;simp(disch:=omega) only[kd,results186])
  |succ k=>
   have Z:((k+1:Nat):Int)-1=(k:Int):=by omega
   simp only[Z];have H:k/32<(aq a).length:=by omega
   obtain⟨x,v⟩:=getElem?_of_lt H;have ac:=bT (aA a) v;obtain⟨y,L⟩:=getElem?_of_lt (show k/32<O.length by omega);have M:=bT lmb L;have w:=Iz v;have C:IntKind.i64.wrap (Int.tdiv (k:Int) 32)=((k/32:Nat):Int):=by
    grind [IntKind.wrap_i64]
   have D:Int.tmod (k:Int) 32=((k%32:Nat):Int):=by rfl
   have S:min (k%32) IntKind.u32.bits=k%32:=by show min (k%32) 32=_;omega
   have z:Int.fdiv (x:Int) (2^min (k%32) IntKind.u32.bits)=((x/2^(k%32):Nat):Int):=by
    grind
   have ad:x/2^(k%32)<=x:=ZW _ _;have A:IntKind.u32.wrap (((BitVec.ofInt IntKind.u32.bits ((x/2^(k%32):Nat):Int)&&&BitVec.ofInt IntKind.u32.bits (1:Int)).toNat:Nat):Int)=((a/2^k%2:Nat):Int):=by
    rw[<- w,<- Nat.and_one_is_mod];exact Vx (x/2^(k%32)) 1 (by omega) (by omega)
   have ab:a/2^k%2<2:=Yk _ (by omega);have J:a/2^(k+1)%b<b:=Yk _ s;have lr:=oP (aac J);have p:=LJ (aq (a/2^(k+1)%b)) (a/2^k%2) (aA _) (by omega) (by omega);have e:=je (dblL (aq (a/2^(k+1)%b)) (a/2^k%2)) (by rw[BT];omega);rw[dS (Cw _ _ (aA _) (by omega)),ym _ _ (aA _) (by omega),ax]at e;by_cases j:b<=2*(a/2^(k+1)%b)+a/2^k%2
   ·obtain⟨E,P,Q⟩:=PL s T len lmb val j L;have m:=(LG s j).2;have N:=kY (n:=2*(a/2^(k+1)%b)+a/2^k%2) (k:=(aq b).length+1) (by
     grind [fW,aA,ax])
    generalize 2*(a/2^(k+1)%b)+a/2^k%2=R at*
    have c:=Gt (aq R) (aq b) (aA _) (aA _) (bY _) (bY _) (by omega) (by omega);rw[ax,ax]at c;have hc:=Gs j;have u:=lU (aq R) (aq b) (aA _) (aA _) (by omega) (by omega);have B:=je (diffL (aq R) (aq b) 0) (by rw[jw];omega);have hd:=iv (aq R) (aq b) 0 (aA _) (aA _) (by omega) (oP j) (by grind [ax]);rw[ax,ax]at hd;rw[dS (jy _ _ _),show natV (diffL (aq R) (aq b) 0)=a/2^k%b by omega]at B;have I:2^(k%32)<4294967296:=abu (a:=2) (n:=32) (by omega) (Yk _ (by omega));have W:IntKind.u32.wrap (1*2^min (k%32) IntKind.u32.bits)=((2^(k%32):Nat):Int):=by
     grind [Dy]
    have X:=VU y (2^(k%32)) M I
    (first|refine au fun _ K=>?_|refine ai (au fun _ K=>?_)|refine ai (ai (au fun _ K=>?_)));simp(disch:=omega) only[kd,cL];apply K
    first|refine aD rfl (ak ?_)|refine aW rfl (fun _=>ak ?_) (fun h=>by simp at h<;>omega)
    refine ai (am ?_)
    (first|refine bj [⟨10,_,_,_,p⟩,⟨11,_,_,_,e⟩] [] fun _ K=>?_|refine ai (bj [⟨10,_,_,_,p⟩,⟨11,_,_,_,e⟩] [] fun _ K=>?_)|refine ai (ai (bj [⟨10,_,_,_,p⟩,⟨11,_,_,_,e⟩] [] fun _ K=>?_)));simp(disch:=omega) only[kd,cL,aa,C,v,D,z,A,af];apply K
    (first|refine bj [⟨2,_,_,_,c⟩] [] fun _ K=>?_|refine ai (bj [⟨2,_,_,_,c⟩] [] fun _ K=>?_)|refine ai (ai (bj [⟨2,_,_,_,c⟩] [] fun _ K=>?_)));simp(disch:=omega) only[kd,cL,aa];apply K
    first|refine aD rfl ?_|refine aW rfl (fun _=>?_) (fun h=>by simp at h<;>omega)
    (first|refine bj [⟨2,_,_,_,u⟩,⟨3,_,_,_,B⟩] [] fun _ K=>?_|refine ai (bj [⟨2,_,_,_,u⟩,⟨3,_,_,_,B⟩] [] fun _ K=>?_)|refine ai (ai (bj [⟨2,_,_,_,u⟩,⟨3,_,_,_,B⟩] [] fun _ K=>?_)));simp only[kd,cL,aa,af];apply K
    refine uy (aE C (aE L (aE D (aE W (aE X @cX))))) (k:=bK (k:=?_));refine⟨E,by omega,aj ⟨by rw[Q];rfl,trivial⟩ ?_⟩;simp[wk,P]
   obtain⟨E,P,Q⟩:=PM s T len lmb val (by omega);have m:=(LH (a:=a) (k:=k) s (by omega)).2;rw[<- m]at e j;have N:=oP (aac (Yk (a/2^k) s));have c:=Gt (aq (a/2^k%b)) (aq b) (aA _) (aA _) (bY _) (bY _) (by omega) (by omega);rw[ax,ax]at c;have hc:=Lz (a:=a/2^k%b) (b:=b) (by omega)
   (first|refine au fun _ K=>?_|refine ai (au fun _ K=>?_)|refine ai (ai (au fun _ K=>?_)));simp(disch:=omega) only[kd,cL];apply K
   first|refine aD rfl (ak ?_)|refine aW rfl (fun _=>ak ?_) (fun h=>by simp at h<;>omega)
   refine ai (am ?_)
   (first|refine bj [⟨10,_,_,_,p⟩,⟨11,_,_,_,e⟩] [] fun _ K=>?_|refine ai (bj [⟨10,_,_,_,p⟩,⟨11,_,_,_,e⟩] [] fun _ K=>?_)|refine ai (ai (bj [⟨10,_,_,_,p⟩,⟨11,_,_,_,e⟩] [] fun _ K=>?_)));simp(disch:=omega) only[kd,cL,aa,C,v,D,z,A,af];apply K
   (first|refine bj [⟨2,_,_,_,c⟩] [] fun _ K=>?_|refine ai (bj [⟨2,_,_,_,c⟩] [] fun _ K=>?_)|refine ai (ai (bj [⟨2,_,_,_,c⟩] [] fun _ K=>?_)));simp(disch:=omega) only[kd,cL,aa];apply K
   first|refine ao rfl (ak ?_)|refine aW rfl (fun h=>by simp at h<;>omega) (fun _=>ak ?_)
   show bs _ _ _ _;refine bK (k:=?_);refine⟨E,by omega,aj ⟨by rw[Q];rfl,trivial⟩ ?_⟩;simp[wk,P]
theorem NZ {P:Program} {q t n:Nat} (h:gK P t=some n) (b:n≠1): ∀x∈[(m,q,t)],gK P x.2.2≠some 1:=fun x c=>by
 grind
theorem Fq {s:AS} {t a r i j b g e f:Nat} (v:s.tmps[n]?=some (.one (.ptr a r i j))) (w:s.tmps[m]?=some (.one (.ptr b g e f))) (c:b≠a):Bc [(n,m,t)] s:=fun x y h D z B l E A C o u=>by
 grind
def tq (a b:Int):Int:=fH (!(decide (a<0)==decide (b<0))) (a.natAbs/b.natAbs)
def tr (a b:Int):Int:=fH (decide (a<0)) (a.natAbs%b.natAbs)
theorem N4 (a b:Int):tr a b+b*tq a b=a:=by
 have h:=Zv a.natAbs b.natAbs;have c:(b.natAbs:Int)*((a.natAbs/b.natAbs:Nat):Int)+((a.natAbs%b.natAbs:Nat):Int)=(a.natAbs:Int):=by
  omega
 unfold tq tr fH;grind
theorem N5 (a b:Int):(tr a b).natAbs=a.natAbs%b.natAbs:=qv _ _
theorem N3 (a b:Int):(tq a b).natAbs=a.natAbs/b.natAbs:=qv _ _
theorem H7 {a b:Int} (c:b≠0):(tr a b).natAbs<b.natAbs:=by simp_all[N5,Yk]
theorem Er {a b:Int} (c:b≠0) (h:0<=tr a b):a/b=tq a b/\a%b=tr a b:=by
 have e:=N4 a b;have f:=H7 (a:=a) c;grind [Int.ediv_emod_unique',Int.ediv_emod_unique]
theorem GD {a b:Int} (c:b<0) (h:tr a b<0):a/b=tq a b+1/\a%b=tr a b+b.natAbs:=by
 have e:=N4 a b;have f:=H7 (a:=a) (b:=b) (by omega);refine(Int.ediv_emod_unique' c).2 ⟨?_,by omega,by omega⟩;grind
theorem GE {a b:Int} (c:0<b) (h:tr a b<0):a/b=tq a b-1/\a%b=tr a b+b.natAbs:=by
 have e:=N4 a b;have f:=H7 (a:=a) (b:=b) (by omega);refine(aaI c).2 ⟨?_,by omega,by omega⟩;grind
theorem Sz.le {y:Int} {k:Nat} (h:Sz y k) (b:x.natAbs<=y.natAbs):Sz x k:=ZB b h
theorem pe {k:Nat} (h:0<k):Sz 1 k:=by grind [Sz]
theorem Lm:Bh 1:=pe (by omega)
theorem NF (h:x<0):sg x= -1:=by simp[sg,h]
theorem yI {z:Int} (h:0<=z):0<=sg z:=by grind [sg]
theorem A7 (a b:Int) (g:b≠0) (x:Bh a) (s:Bh b):CallC prog 129 [tZ a,tZ b] ⟨[],.tup [(true,cZ (a/b)),(true,cZ (a%b)),(false,[.p (.raw (.bool true))])]⟩:=by
 have E:=x.len;have F:=s.len;have t1:=je (aq a.natAbs) x.bg.len;have t2:=je (aq b.natAbs) s.bg.len;rw[ib]at t1 t2;have D:(aq b.natAbs).length≠0:=fun h=>g (by grind [fg])
 have y:=LI a.natAbs b.natAbs (by omega) E F;have u:Bh (tq a b):=x.le (by simp_all[N3,ZW]);have v:Bh (tr a b):=s.le (aac (H7 g));have c:=jN (!(decide (a<0)==decide (b<0))) (aq (a.natAbs/b.natAbs)) (aA _) (by have:=u.bg.len;grind [N3]);have e:=jN (decide (a<0)) (aq (a.natAbs%b.natAbs)) (aA _) (by have:=v.bg.len;grind [N5]);rw[ax,show fH _ _=tq a b from rfl]at c;rw[ax,show fH _ _=tr a b from rfl]at e;have t:=nr (tr a b) v.bg;have G:= @Er a b g;have H:= @GD a b;have I:= @GE a b;generalize tq a b=Q at*
 generalize tr a b=R at*
 by_cases w:R<0
 ·have j:=jN false (aq b.natAbs) (aA _) (by omega);rw[ax,show fH false b.natAbs=((b.natAbs:Nat):Int)from rfl]at j;have C:=xt R (b.natAbs:Int) v (by grind [Sz]);have m:=nr b s.bg;have B:=fY 1 (by omega) (by omega);rw[NF w]at t;by_cases r:b<0
  ·obtain⟨o,q⟩:=H r w;rw[o,q];rw[NF r]at m;have f:=xt Q 1 u Lm;refine aB func129 rfl ntmps129 (aC (k:=cQ [⟨2,_,_,_,t1⟩,⟨5,_,_,_,t2⟩] (k:=ai (ar (k:=ao rfl (ak (bQ [⟨2,_,_,_,y⟩] (k:=cQ [⟨6,_,_,_,c⟩,⟨10,_,_,_,e⟩] (k:=?_)))))))));refine bs.weak (aj (tm:=(jk::jk::.one (.ptr 2 0 0 0)::.one (.ptr 3 0 0 0)::.one (.ptr 4 0 0 0)::.one (.ptr 5 0 0 0)::.raw (.bool false)::jk::cL (aq b.natAbs)::jk::jk::.one (.ptr 11 0 0 0)::.one (.ptr 12 0 0 0)::j16 (j16 (j16 ([]))))) (l:=[(2,A2 (decide (a<0)) (aq a.natAbs)),(3,A2 true (aq b.natAbs)),(4,zu),(5,zu),(11,A2 (decide (Q<0)) (aq Q.natAbs)),(12,A2 true (aq R.natAbs))]) ⟨rfl,rfl,rfl,rfl,rfl,rfl,trivial⟩ (by simp[wk])) ?_;refine ai (bL [⟨1,_,_,_,t⟩] (k:=aD rfl (cQ [⟨2,_,_,_,j⟩,⟨3,_,_,_,C⟩] (k:=ai (bL [⟨1,_,_,_,m⟩] (k:=aD rfl ?_))))));refine ut [(12,4,65)] ch [⟨1,_,_,_,B⟩,⟨2,_,_,_,f⟩] [] (by kernel_rfl) (NZ (n:=2) (by simp only[tW,qL,oc,mm,tV,qK,mn,wT,qO,mj,AT,tU,qM]) (by decide)) (Fq rfl rfl (by decide)) fun _ K=>?_;simp(disch:=omega) only[kd,tZ,aa,ab,af];apply K
   (refine aZ ⟨.inr rfl,b9 rfl ?_ rfl⟩;simp(disch:=omega) only[kd,results129,ab,aa,cZ])
  obtain⟨o,q⟩:=I (by omega) w;rw[o,q];have A:=yI (z:=b) (by omega);have f:=RZ Q 1 u Lm;refine aB func129 rfl ntmps129 (aC (k:=cQ [⟨2,_,_,_,t1⟩,⟨5,_,_,_,t2⟩] (k:=ai (ar (k:=ao rfl (ak (bQ [⟨2,_,_,_,y⟩] (k:=cQ [⟨6,_,_,_,c⟩,⟨10,_,_,_,e⟩] (k:=?_)))))))));refine bs.weak (aj (tm:=(jk::jk::.one (.ptr 2 0 0 0)::.one (.ptr 3 0 0 0)::.one (.ptr 4 0 0 0)::.one (.ptr 5 0 0 0)::.raw (.bool false)::jk::cL (aq b.natAbs)::jk::jk::.one (.ptr 11 0 0 0)::.one (.ptr 12 0 0 0)::j16 (j16 (j16 ([]))))) (l:=[(2,A2 (decide (a<0)) (aq a.natAbs)),(3,A2 false (aq b.natAbs)),(4,zu),(5,zu),(11,A2 (decide (Q<0)) (aq Q.natAbs)),(12,A2 true (aq R.natAbs))]) ⟨rfl,rfl,rfl,rfl,rfl,rfl,trivial⟩ (by simp[wk])) ?_;refine ai (bL [⟨1,_,_,_,t⟩] (k:=aD rfl (cQ [⟨2,_,_,_,j⟩,⟨3,_,_,_,C⟩] (k:=ai (bL [⟨1,_,_,_,m⟩] (k:=ao rfl (ak ?_)))))));refine ut [(12,4,65)] ch [⟨1,_,_,_,B⟩,⟨2,_,_,_,f⟩] [] (by kernel_rfl) (NZ (n:=2) (by simp only[tW,qL,oc,mm,tV,qK,mn,wT,qO,mj,AT,tU,qM]) (by decide)) (Fq rfl rfl (by decide)) fun _ K=>?_;simp(disch:=omega) only[kd,tZ,aa,ab,af];apply K
  (refine aZ ⟨.inr rfl,b9 rfl ?_ rfl⟩;simp(disch:=omega) only[kd,results129,ab,aa,cZ])
 obtain⟨o,q⟩:=G (by omega);rw[o,q];have A:=yI (z:=R) (by omega);refine aB func129 rfl ntmps129 (aC (k:=cQ [⟨2,_,_,_,t1⟩,⟨5,_,_,_,t2⟩] (k:=ai (ar (k:=ao rfl (ak (bQ [⟨2,_,_,_,y⟩] (k:=cQ [⟨6,_,_,_,c⟩,⟨10,_,_,_,e⟩] (k:=?_)))))))));refine bs.weak (aj (tm:=(jk::jk::.one (.ptr 2 0 0 0)::.one (.ptr 3 0 0 0)::.one (.ptr 4 0 0 0)::.one (.ptr 5 0 0 0)::.raw (.bool false)::jk::cL (aq b.natAbs)::jk::jk::.one (.ptr 11 0 0 0)::.one (.ptr 12 0 0 0)::j16 (j16 (j16 ([]))))) (l:=[(2,A2 (decide (a<0)) (aq a.natAbs)),(3,A2 (decide (b<0)) (aq b.natAbs)),(4,zu),(5,zu),(11,A2 (decide (Q<0)) (aq Q.natAbs)),(12,A2 false (aq R.natAbs))]) ⟨rfl,rfl,rfl,rfl,rfl,rfl,trivial⟩ (by simp[wk])) ?_;refine ai (bL [⟨1,_,_,_,t⟩] (k:=ao rfl (ak ?_)));refine ut [(12,4,65)] ch [] [] (by kernel_rfl) (NZ (n:=2) (by simp only[tW,qL,oc,mm,tV,qK,mn,wT,qO,mj,AT,tU,qM]) (by decide)) (Fq rfl rfl (by decide)) fun _ K=>?_;simp(disch:=omega) only[kd,aa,ab];apply K
 (refine aZ ⟨.inr rfl,b9 rfl ?_ rfl⟩;simp(disch:=omega) only[kd,results129,ab,aa,cZ])
theorem Gb (a b:Int) (c:b≠0) (f:Bh a) (g:Bh b):CallC prog 76 [tZ a,tZ b] ⟨[],tZ (a/b)⟩:=by
 have e:=A7 a b c f g;refine aB func76 rfl ntmps76 (aC (k:=bL [⟨2,_,_,_,e⟩] (k:=ar (k:=aF @results76))))
abbrev rOk (n:Nat) (r:List Int):Prop:=1<=r.length/\r.length<=16/\r.length=n
def Kx (M:List (List Int)):Prop:=1<=M.length/\M.length<=16/\ ∀r∈M,rOk (M.headD []).length r
instance (M:List (List Int)):Decidable (Kx M):=by unfold Kx;exact inferInstance
def Up (M:List (List Int)):TV:=if Kx M then .tup [(false,[.p (.raw (.int .i64 (M.length:Int)))]),(false,[.p (.raw (.int .i64 ((M.headD []).length:Int)))]),(false,[.p (.raw (.bool true))])]
 else .tup [(false,[.p (.raw (.int .i64 0))]),(false,[.p (.raw (.int .i64 0))]),(false,[.p (.raw (.bool false))])]
theorem fG (h: ¬Kx c):Up c= .tup [(false,[.p (.raw (.int .i64 0))]),(false,[.p (.raw (.int .i64 0))]),(false,[.p (.raw (.bool false))])]:=by grind [Up]
theorem iE (h:Kx c):Up c= .tup [(false,[.p (.raw (.int .i64 (c.length:Int)))]),(false,[.p (.raw (.int .i64 ((c.headD []).length:Int)))]),(false,[.p (.raw (.bool true))])]:=by grind [Up]
theorem mS {M:List (List Int)} (h:1<=M.length):M[0]?=some (M.headD []):=by cases M with
 |nil=>simp at h
 |cons r M=>rfl
structure Xp (M:List (List Int)) where
 i:Nat
 hi:i<=M.length
 ok: ∀r∈M.take i,rOk (M.headD []).length r
theorem tj (M:List (List Int)):CallC prog 113 [dZ M] ⟨[],Up M⟩:=by
 by_cases p:M.length<1
 ·rw[fG (fun h=>by have:=h.1;omega)];refine aB func113 rfl ntmps113 (aC (k:=ai (ar (k:=aD rfl (bH (k:=aF @results113))))))
 by_cases q:16<M.length
 ·rw[fG (fun h=>by have:=h.2.1;omega)];refine aB func113 rfl ntmps113 (aC (k:=ai (ar (k:=aD rfl (bH (k:=aF @results113))))))
 have e:=mS (M:=M) (by omega);refine aB func113 rfl ntmps113 (aC (k:=ai (ar (k:=ao rfl (ak (ai (bH (k:=?_))))))));refine aG (G:=Xp M) (fun g=>⟨(dZ M::jk::.raw (.int .i64 0)::.raw (.int .i64 0)::.raw (.bool false)::j4 (j4 (jk::jk::dZ M::rN M.length::rN g.i::j16 (j4 (j4 (jk::jk::jk::[])))))),Hm []⟩) (fun g=>M.length-g.i) ⟨0,by omega,fun r c=>by simp at c⟩ ?_ ?_
 ·refine aj trivial ?_;simp[wk]
 rintro⟨i,s,ok⟩;simp only;by_cases j:i<M.length
 ·obtain⟨r,c⟩:=getElem?_of_lt j;have b:r∈M:=XH c;refine ar (k:=bA rfl (ai (am (aK c (k:=?_)))));by_cases m:r.length<1
  ·rw[fG (fun h=>by have:=(h.2.2 r b).1;omega)];refine ar (k:=aD rfl (bH (k:=aF @results113)))
  by_cases n:16<r.length
  ·rw[fG (fun h=>by have:=(h.2.2 r b).2.1;omega)];refine ar (k:=aD rfl (bH (k:=aF @results113)))
  by_cases o:r.length=(M.headD []).length
  ·refine aK e (k:=ao rfl (ak (bK (k:=?_))));refine⟨⟨i+1,by omega,fun t l=>?_⟩,by simp only;omega,aj trivial ?_⟩
   ·grind [List.take_add_one]
   simp[wk]
  rw[fG (fun h=>by have:=(h.2.2 r b).2.2;omega)];refine aK e (k:=aD rfl (bH (k:=aF @results113)))
 have f:Kx M:=⟨by omega,by omega,fun r c=>ok r (by grind)⟩;rw[iE f];refine ar (k:=bG rfl (gQ e (k:=aF @results113)))
def We (M:List (List Int)):Prop:=Kx M/\M.length=(M.headD []).length
instance (M:List (List Int)):Decidable (We M):=by unfold We;exact inferInstance
def SC (M:List (List Int)):TV:=if We M then .tup [(false,[.p (.raw (.int .i64 (M.length:Int)))]),(false,[.p (.raw (.bool true))])]else .tup [(false,[.p (.raw (.int .i64 0))]),(false,[.p (.raw (.bool false))])]
theorem Be (M:List (List Int)):CallC prog 102 [dZ M] ⟨[],SC M⟩:=by
 have b:=tj M;by_cases c:Kx M
 ·rw[iE c]at b;by_cases e:M.length=(M.headD []).length
  ·rw[show SC M=_ from if_pos ⟨c,e⟩];refine aB func102 rfl ntmps102 (aC (k:=bQ [⟨1,_,_,_,b⟩] (k:=ai (ar (k:=ao rfl (ak (bH (k:=aF @results102))))))))
  rw[show SC M=_ from if_neg (fun h=>e h.2)];refine aB func102 rfl ntmps102 (aC (k:=bQ [⟨1,_,_,_,b⟩] (k:=ai (ar (k:=aD rfl (bH (k:=aF @results102)))))))
 rw[fG c]at b;rw[show SC M=_ from if_neg (fun h=>c h.1)];refine aB func102 rfl ntmps102 (aC (k:=bQ [⟨1,_,_,_,b⟩] (k:=ai (ar (k:=aD rfl (bH (k:=aF @results102)))))))
def jU (d:Nat) (l:List Nat):List (List AV):=l.mapIdx fun k c=>[.sl d (k+1) 0 c]
def np (r:List Int):OObj:=⟨65,2,lc fZ r⟩
def Sp (d:Nat) (R:List (List Int)):List OObj:=⟨85,1,jU d (R.map List.length)⟩::R.map np
def SN (d n c i:Nat):List OObj:=⟨85,1,jU d (ae i c)++ae (n-i) [.p (.sl [])]⟩::ae i (np (ae c 0))
theorem cO (d:Nat) (l:List Nat):(jU d l).length=l.length:=by simp[jU]
theorem qy (d:Nat) (l:List Nat) (c:Nat):jU d (l++[c])=jU d l++[[.sl d (l.length+1) 0 c]]:=by simp_all[jU]
theorem SB (d:Nat) (l:List Nat):(jU d l).map (List.map DH)=jU d l:=by
 apply X7;intro k;simp only[jU,XK,abr];cases l[k]?<;>rfl
theorem VW (r:List Int):(lc fZ r).map (List.map DH)=lc fZ r:=by simp[lc,fZ,DH,F5]
theorem Kv (d n c:Nat):([⟨85,1,ae n [.raw (.slice none 0 0)]⟩]:List OObj).map zO=SN d n c 0:=by
 simp[SN,zO,jU,DH,F5]
theorem OP (d n c:Nat):SN d n c n=Sp d (ae n (ae c 0)):=by
 simp[SN,Sp]
theorem Ic {d c i:Nat} (b:i<n):(jU d (ae i c)++ae (n-i) [AV.p (PV.sl [])])[i]?=some [.p (.sl [])]:=by
 grind [cO]
theorem OQ {d i:Nat} (e:i<n):
  ((⟨85,1,(jU d (ae i m)++ae (n-i) [AV.p (PV.sl [])]).set i [.sl d (i+1) 0 m]⟩::ae i (np (ae m 0))++[⟨65,2,ae m [.raw (.bool false),.raw (.slice none 0 0)]⟩]:List OObj)).map zO=SN d n m (i+1):=by
 have b:(jU d (ae i m)++ae (n-i) [AV.p (PV.sl [])]).set i [.sl d (i+1) 0 m]=jU d (ae (i+1) m)++ae (n-(i+1)) [AV.p (PV.sl [])]:=by
  rw[Zm _ _ (by simp[cO]),cO,Yq,Zj,Z2 (n:=i),qy,Yq,Ye]
  congr 1
  rw[show n-i=n-(i+1)+1 by omega,Z5];rfl
 rw[b];simp only[Z6,X9,YN,abI,SN]
 congr 1
 ·simp[zO,SB,DH,F5]
 rw[Z2]
 congr 1
 ·grind [zO,np,VW]
 simp[zO,np,lc,fZ,DH,F5,cf,ls]
theorem Ht (d e:Nat) (l:List Nat):(jU d l).map (List.map (b6 e))=jU e l:=by
 apply X7;intro k;simp only[jU,XK,abr];cases l[k]?<;>rfl
theorem QY (e:Nat) (r:List Int):renO e (np r)=np r:=by simp[renO,np,jL]
theorem G7 (d e:Nat) (R:List (List Int)):(Sp d R).map (renO e)=Sp e R:=by
 grind [Sp,renO,Ht,List.map_congr_left,QY]
structure Xw (n:Nat) where
 i:Nat
 hi:i<=n
theorem zk (n c:Nat) (l:n<=16) (h:c<=16):CallC prog 51 [.raw (.int .i64 (n:Int)),.raw (.int .i64 (c:Int))] ⟨Sp 0 (ae n (ae c 0)),.one (.sl 0 0 0 n)⟩:=by
 refine aB func51 rfl ntmps51 (aC (k:=ar (k:=ai (bH (k:=?_)))));refine aG (G:=Xw n) (fun g=>⟨(.raw (.int .i64 (n:Int))::rN c::jk::jk::.raw (.slice none 0 0)::.one (.sl 8 0 0 n)::j4 (.raw (.int .i64 (n:Int))::rN g.i::j4 (j4 (jk::[])))),Hm [(8,SN 8 n c g.i)]⟩) (fun g=>n-g.i) ⟨0,by omega⟩ ?_ ?_
 ·refine(gN 8).trans (aj ⟨Kv 8 n c,trivial⟩ ?_);simp[wk]
 rintro⟨i,j⟩;simp only;by_cases e:i<n
 ·refine ar (k:=bA rfl (ai (am (bH (k:=?_)))));simp only[SN];have f:=Ic (d:=8) (c:=c) e;refine dU (aE f (aE @Yq (aE @ZR (@ite_self.{1})))) (k:=bK (k:=?_));refine⟨⟨i+1,by omega⟩,by grind,(gN 8).trans (aj ⟨OQ e,trivial⟩ ?_)⟩;simp[wk]
 have b:i=n:=by omega
 subst b;refine ar (k:=bG rfl ?_);show bs _ _ _ _;rw[OP];refine bH (k:=?_);refine aZ ⟨.inr rfl,_,bv.refl _,?_⟩;refine⟨.one (.sl 8 0 0 i),8,?_,rfl,?_,rfl⟩
 ·simp(disch:=omega) only[kd,results51]
 grind [G7]
abbrev i5 (d n c:Nat) (f:FF):List OObj:=⟨85,1,jU d (ae n c)⟩::(mat n c f).map np
theorem ME (n c:Nat) (f:FF):(mat n c f).map List.length=ae n c:=by
 apply X7;grind [bu,aH,aS]
theorem rF (d n c:Nat) (f:FF):Sp d (mat n c f)=i5 d n c f:=by rw[Sp,ME]
theorem tG (n c:Nat):ae n (ae c (0:Int))=mat n c fun _ _=>0:=by
 apply X7;intro i;rw[YF];by_cases h:i<n
 ·rw[bu _ _ h,if_pos h]
  congr 1
  apply X7;grind [az,aH]
 grind [aS]
theorem cd {n i:Nat} (d c:Nat) (h:i<n):(jU d (ae n c))[i]?=some [.sl d (i+1) 0 c]:=by
 simp[jU,h]
theorem fT {n i:Nat} (c:Nat) (f:FF) (h:i<n):((mat n c f).map np)[i]?=some ⟨65,2,lc fZ (aN c (f i))⟩:=by
 rw[XK,bu _ _ h];rfl
def upd (f:FF) (i j:Nat) (v:Int):Nat->Nat->Int:=fun a=>if a=i then(fun b=>if b=j then v else f i b)else f a
theorem l9 {n i j:Nat} (c:Nat) (f:FF) (v:Int):((mat n c f).map np).set i ⟨65,2,(lc fZ (aN c (f i))).set j [.p (.raw (.bool (decide (v<0)))),.p (.sl (ls fU (aq v.natAbs)))]⟩=(mat n c (upd f i j v)).map np:=by
 have e:(⟨65,2,(lc fZ (aN c (f i))).set j [.p (.raw (.bool (decide (v<0)))),.p (.sl (ls fU (aq v.natAbs)))]⟩:OObj)=np (aN c fun b=>if b=j then v else f i b):=by
  rw[<- nj,np,<- vw];rfl
 rw[e,<- aaR,G4];rfl
theorem cj {g:FF} (h: ∀i j,i<n->j<m->e i j=g i j):(mat n m e).map np=(mat n m g).map np:=by rw[gA h]
theorem fS (d e n c:Nat) (f:FF):(i5 d n c f).map (renO e)=i5 e n c f:=by rw[<- rF,<- rF,G7]
theorem ke {H:OH} {d:Nat} (h:H d=i5 d n m e):s9 H d:=fun r o g b j x p=>by
 rw[h]at g;cases r with
 |succ r=>
  rw[Ze,XK]at g;obtain⟨l,q,rfl⟩:=XI.1 g;exact .inl (bi _ _ l b j x p)
 |zero=>
  grind [List.mem_iff_getElem?,cO,cd,np,bi,bu]
theorem Sf {H:OH} {d n c:Nat} {f:FF} (h:H d=i5 d n c f):fb H d (.one (.sl d 0 0 n))=dZ (mat n c f):=by
 have e:((jU d (ae n c)).map (List.map (mq H d)))=ls (fR fZ) (mat n c f):=by
  apply X7;intro i;rw[XK,fh];by_cases b:i<n
  ·rw[cd d c b,bu _ _ b];simp only[Yp,X9,Yu,mq,h,Ze,fT _ _ b,fR,fQ,zP,nK];grind [aH]
  grind [cO,aS]
 grind [fb,dD,cO]
def TM (M:List (List Int)):TV:= .tup [(false,[.p (.sl (ls (fR fZ) M))]),(false,[.p (.raw (.bool true))])]
structure jW (n:Nat) where
 i:Nat
 hi:i<=n
def part (f:FF) (i j:Nat):Nat->Nat->Int:=fun a b=>if a<i\/(a=i/\b<j)then f a b else 0
theorem iw (f:FF) (i j a b:Nat):upd (part f i j) i j (f i j) a b=part f i (j+1) a b:=by
 unfold upd part;by_cases c:a=i
 ·subst c;grind
 simp[c]
theorem jQ (f:FF) (i a b:Nat) (e:b<n):part f i n a b=part f (i+1) 0 a b:=by
 grind [part]
theorem jP (f:FF) (a b:Nat) (c:a<n):part f n 0 a b=f a b:=by
 grind [part]
theorem yy (f:FF):part f 0 0=fun _ _=>0:=by
 grind [part]
theorem DK (n c:Nat) (f:FF) (I:1<=n) (F:n<=16) (C:1<=c) (B:c<=16) (v: ∀i j,i<n->j<c-> -9223372036854775808<=f i j/\f i j<=9223372036854775807):
  CallC prog 53 [dq (mat n c f)] ⟨[],TM (mat n c f)⟩:=by
 have o:=aS n c f;have t:=bu (n:=n) c f (i:=0) (by omega);have u:=zk n c F B;rw[tG,rF]at u;refine aB func53 rfl ntmps53 (aC (k:=ai (aK o (k:=ao rfl (ak (ai (f5 o (k:=?_))))))));refine aG (G:=jW n) (fun g=>⟨(dq (mat n c f)::jk::.raw (.slice none 0 0)::.raw (.bool false)::j4 (j4 (j4 (jk::dq (mat n c f)::rN n::rN g.i::j16 (j16 (j16 (j4 (j4 (jk::jk::[]))))))))),Hm []⟩) (fun g=>n-g.i) ⟨0,by omega⟩ ?_ ?_
 ·refine aj trivial ?_;simp[wk]
 rintro⟨i,D⟩;simp only;by_cases E:i<n
 ·have p:=bu c f E;refine ar (k:=bA rfl (ai (am (aK p (k:=aK (aE @aH t) (k:=ao rfl (ak (bK (k:=?_)))))))));refine⟨⟨i+1,by omega⟩,by grind,aj trivial ?_⟩;simp[wk]
 refine ar (k:=bG rfl (ce [⟨6,_,_,_,u⟩] (aE o (aE t @aH)) (k:=ai (f5 o (k:=?_)))));refine aG (G:=jW n) (fun g=>⟨(dq (mat n c f)::jk::.raw (.slice none 0 0)::.raw (.bool false)::jk::jk::.one (.sl 47 0 0 n)::j16 (j16 (j4 (j4 (jk::jk::rN n::rN g.i::j16 (j4 (j4 (jk::jk::jk::[])))))))),Hm [(47,i5 47 n c (part f g.i 0))]⟩) (fun g=>n-g.i) ⟨0,by omega⟩ ?_ ?_
 ·refine aj ⟨?_,trivial⟩ ?_
  ·rw[yy];exact fS 0 47 n c _
  simp[wk]
 rintro⟨i,D⟩;simp only;by_cases h:i<n
 ·have p:=bu c f h;refine ar (k:=bA rfl (ai (am (bH (k:=aK (aE p @aH) (k:=?_))))));refine aG (G:=jW c) (fun g=>⟨(dq (mat n c f)::jk::.raw (.slice none 0 0)::.raw (.bool false)::jk::jk::.one (.sl 47 0 0 n)::rN i::j16 (j16 (j4 (j4 (jk::rN n::rN i::j4 (jk::jk::rN c::rN g.i::j16 (jk::jk::jk::[]))))))),Hm [(47,i5 47 n c (part f i g.i))]⟩) (fun g=>c-g.i) ⟨0,by omega⟩ ?_ ?_
  ·refine aj ⟨rfl,trivial⟩ ?_;simp[wk]
  rintro⟨j,J⟩;simp only;by_cases m:j<c
  ·have s:=az (f i) m;have z:=fY (f i j) (v i j h m).1 (v i j h m).2;have w:=cd (n:=n) (i:=i) 47 c h;have x:=fT c (part f i j) h;have y:=az (part f i j i) m;refine ar (k:=bA rfl (ai (am (bH (k:=gP [⟨12,_,_,_,z⟩] (aE w (aE p (aE s (aE x (aE y @l9))))) (k:=bK (k:=?_)))))));refine⟨⟨j+1,by omega⟩,by grind,aj ⟨?_,trivial⟩ ?_⟩
   ·show _::_=_::_;simp_all[cj,iw]
   simp[wk]
  have r:j=c:=by omega
  subst r;refine ar (k:=bG rfl (bK (k:=?_)));refine⟨⟨i+1,by omega⟩,by grind,aj ⟨?_,trivial⟩ ?_⟩
  ·show _::_=_::_;rw[cj fun a b _ A=>jQ f i a b A]
  simp[wk]
 have q:i=n:=by omega
 subst q;refine ar (k:=bG rfl ?_);show bs _ _ _ _;have e:i5 47 i c (part f i 0)=i5 47 i c f:=by
  grind [cj,jP]
 rw[e];refine bs.weak ((bF 47 (ke rfl)).trans (aj (tm:=(j4 (jk::jk::dZ (mat i c f)::j16 (j16 (j16 (j16 (j4 (jk::jk::jk::[])))))))) (l:=[]) trivial (by simp[wk];exact(Sf (H:=Hm [(47,i5 47 i c f)]) (d:=47) (n:=i) (c:=c) (f:=f) rfl).symm))) ?_;refine bH (k:=aF (aE @results53 @TM.eq_1))
theorem Vo (n c:Nat) (f:FF) (e:1<=n) (m:n<=16) (b:1<=c) (h:c<=16) (l: ∀i j,i<n->j<c-> -9223372036854775808<=f i j/\f i j<=9223372036854775807):
  CallC prog 23 [dq (mat n c f)] ⟨[],dZ (mat n c f)⟩:=by
 have g:=DK n c f e m b h l;refine aB func23 rfl ntmps23 (aC (k:=iH [⟨1,_,_,_,g⟩] @TM.eq_1 (k:=bH (k:=aF @results23))))
end Go.Proofs.YtalmoejhjceflaaGreat
