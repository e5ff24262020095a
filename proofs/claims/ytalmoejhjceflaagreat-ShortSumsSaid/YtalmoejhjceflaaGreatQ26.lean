/-
  Part 27 of a proof (walks and plain facts).
-/
import Derived.Test.YtalmoejhjceflaaGreatQ25
set_option linter.all false
set_option maxRecDepth 100000
set_option maxHeartbeats 64000000
open Nat renaming reduceAdd → aa
open Nat renaming reduceEqDiff → ab
open List renaming replicate → ae
namespace Go.Proofs.YtalmoejhjceflaaGreat
open Go.RowKit Go.Proofs.Tryz
variable {b:List Nat} {x:Int} {n:Nat}
theorem LR (l m:List Nat) (r:Lmb l) (s:Lmb m) (t:xO l) (u:xO m) (x:l.length<=1073741824) (y:m.length<=1073741824):
  CallC prog 157 [cW l,cW m] ⟨[],.raw (.int .i64 (iP (natV l) (natV m)))⟩:=by
 rcases adE l.length m.length with q|n|o
 ·rw[qJ (kG r u q)];refine ax func157 rfl ntmps157 (aA (k:=ai (ar (k:=az rfl (ai (ar (k:=az rfl (bi (k:=aE @results157)))))))))
 ·refine ax func157 rfl ntmps157 (aA (k:=ai (ar (k:=ao rfl (ak (ai (ar (k:=?_))))))));refine ay (G:={k:Nat//k<=l.length/\l.drop k=m.drop k}) (fun k=>⟨(cW l::cW m::jk::jk::.raw (.int .i64 0)::.raw (.int .i64 ((k.1:Int)-1))::j16 (j16 (jk::jk::jk::[]))),Hm []⟩) (fun k=>k.1) ⟨l.length,acs _,by rw[ae4,n,ae4]⟩ ?_ ?_
  ·refine aj trivial ?_;simp[wk]
  rintro⟨k,B,A⟩;simp only;by_cases z:0<k
  ·obtain⟨a,f⟩:=getElem?_of_lt (l:=l) (k:=k-1) (by omega);obtain⟨b,g⟩:=getElem?_of_lt (l:=m) (k:=k-1) (by omega);have j:((k:Int)-1).toNat=k-1:=by omega
   have e:l.drop (k-1+1)=m.drop (k-1+1):=by grind
   refine ai (ar (k:=az rfl (ak (ai (am (gM (aC j (aC f g)) (k:=?_)))))));rcases adE a b with c|c|c
   ·rw[qJ (oV r f g e c)];refine bs rfl (fun _=>?_) (fun h=>by simp at h<;>omega);refine ai (gM (aC j (aC f g)) (k:=az rfl (bi (k:=aE @results157))))
   ·subst c;refine bs rfl (fun h=>by simp at h<;>omega) (fun _=>ak ?_);show bA _ _ _ _;refine bu (k:=?_);refine⟨⟨k-1,by omega,Cu f g e⟩,by grind,aj trivial ?_⟩;have v:((k-1:Nat):Int)=(k:Int)-1:=by omega
    simp[wk,v]
   rw[xV (oV s g f e.symm c)];refine bs rfl (fun _=>?_) (fun h=>by simp at h<;>omega);refine ai (gM (aC j (aC f g)) (k:=ao rfl (ak (bi (k:=aE @results157)))))
  have p:k=0:=by omega
  subst p;have w:l=m:=by grind
  rw[show iP (natV l) (natV m)=0 by grind [iP]];refine ai (ar (k:=ao rfl (aX (bi (k:=aE @results157)))))
 rw[xV (kG s t o)];refine ax func157 rfl ntmps157 (aA (k:=ai (ar (k:=az rfl (ai (ar (k:=ao rfl (ak (bi (k:=aE @results157))))))))))
def mN (a b:Int):Int:=if a<b then -1 else if a=b then 0 else 1
theorem HJ (z:Int): -1<=sg z/\sg z<=1:=by grind [sg]
theorem Jl (a b:Nat): -1<=iP a b/\iP a b<=1:=by grind [iP]
theorem Vv {a:Int} (h:sg a≠sg x):mN a x=if sg a<sg x then -1 else 1:=by
 grind [sg,mN]
theorem Vt {a:Int} (h:sg a=sg x):mN a x=sg a*iP a.natAbs x.natAbs:=by
 grind [sg,mN,iP]
theorem yv (a b:Int) (e:Bg a) (f:Bg b):CallC prog 106 [tZ a,tZ b] ⟨[],.raw (.int .i64 (mN a b))⟩:=by
 have g:=kW a e;have j:=kW b f;have t1:=jE (au a.natAbs) e.len;have t2:=jE (au b.natAbs) f.len;rw[jF]at t1 t2;have l:=LR (au a.natAbs) (au b.natAbs) (aI _) (aI _) (cb _) (cb _) e.len f.len;rw[aG,aG]at l;have n:=HJ a;have o:=HJ b;have p:=Jl a.natAbs b.natAbs;have q: -1<=sg a*iP a.natAbs b.natAbs/\sg a*iP a.natAbs b.natAbs<=1:=by
  grind [sg]
 by_cases m:sg a=sg b
 ·rw[Vt m];refine ax func106 rfl ntmps106 (aA (k:=da [⟨1,_,_,_,g⟩,⟨3,_,_,_,j⟩] (k:=ai (ar (k:=ao rfl (ak (da [⟨3,_,_,_,t1⟩,⟨6,_,_,_,t2⟩,⟨7,_,_,_,l⟩] (k:=aE @results106))))))))
 rw[Vv m];refine ax func106 rfl ntmps106 (aA (k:=da [⟨1,_,_,_,g⟩,⟨3,_,_,_,j⟩] (k:=ai (ar (k:=az rfl (ai (bi (k:=?_))))))));by_cases c:sg a<sg b
 ·rw[if_pos c];refine bs rfl (fun _=>?_) (fun h=>by simp at h<;>omega);refine ar (k:=aE @results106)
 rw[if_neg c];refine bs rfl (fun h=>by simp at h<;>omega) (fun _=>ak ?_);show bA _ _ _ _;refine ar (k:=aE @results106)
def sumL:List Nat->List Nat->Nat->List Nat
 |[],[],c=>[c]
 |a::m,[],c=>(c+a)%4294967296::sumL m [] ((c+a)/4294967296)
 |[],b::n,c=>(c+b)%4294967296::sumL [] n ((c+b)/4294967296)
 |a::m,b::n,c=>(c+a+b)%4294967296::sumL m n ((c+a+b)/4294967296)
theorem nC: ∀(m n:List Nat) (c:Nat),natV (sumL m n c)=natV m+natV n+c
 |[],[],c=>by simp[sumL,natV]
 |a::m,[],c=>by simp only[sumL,natV,nC m []];omega
 |[],b::n,c=>by simp only[sumL,natV,nC [] n];omega
 |a::m,b::n,c=>by simp only[sumL,natV,nC m n];omega
theorem dJ {a:Nat}:Lmb (a::b)↔a<4294967296/\Lmb b:=by simp[Lmb]
theorem qi: ∀(m n:List Nat) (c:Nat),Lmb m->Lmb n->c<=1->Lmb (sumL m n c)
 |[],[],c,_,_,g=>by grind [sumL,Lmb]
 |a::m,[],c,e,f,g=>by
  rw[dJ]at e;rw[sumL,dJ];exact⟨acM _ (by omega),qi m [] _ e.2 f (by omega)⟩
 |[],b::n,c,e,f,g=>by
  rw[dJ]at f;rw[sumL,dJ];exact⟨acM _ (by omega),qi [] n _ e f.2 (by omega)⟩
 |a::m,b::n,c,e,f,g=>by
  rw[dJ]at e f;rw[sumL,dJ];exact⟨acM _ (by omega),qi m n _ e.2 f.2 (by omega)⟩
theorem vk: ∀(m n:List Nat) (c:Nat),(sumL m n c).length=max m.length n.length+1
 |[],[],c=>by simp[sumL]
 |a::m,[],c=>by simp[sumL,vk m []]
 |[],b::n,c=>by simp[sumL,vk [] n]
 |a::m,b::n,c=>by simp[sumL,vk m n]
theorem ee {i a:Nat} (h:b[i]?=some a):b.drop i=a::b.drop (i+1):=by
 grind [List.drop_eq_getElem_cons]
theorem fb {i:Nat} (h:b.length<=i):b.drop i=[]:=aeE.2 h
theorem bV {i a:Nat} (c:Lmb b) (h:b[i]?=some a):a<4294967296:=c a (acd h)
theorem BT (x:Nat):IntKind.u32.wrap (x:Int)=((x%4294967296:Nat):Int):=by rfl
theorem P3 (x:Nat):(x:Int).fdiv (2^(min 32 IntKind.u64.bits))=((x/4294967296:Nat):Int):=by
 show Int.fdiv (x:Int) 4294967296=_;grind
structure abU (m n:List Nat) where
 i:Nat
 o:List Nat
 c:Nat
 hi:i<=max m.length n.length
 hc:c<=1
 ho:o.length=i
 h:o++sumL (m.drop i) (n.drop i) c=sumL m n 0
theorem abG (m n:List Nat) (x:Lmb m) (t:Lmb n) (y:m.length<=1073741824) (z:n.length<=1073741824):
  CallC prog 172 [cW m,cW n] ⟨[],cW (sumL m n 0)⟩:=by
 refine ax func172 rfl ntmps172 (aA (k:=bi (k:=bi (k:=ai (bi (k:=?_))))));refine ay (G:=abU m n) (fun g=>⟨(cW m::cW n::jk::jk::.raw (.slice none 0 0)::.one (.sl 46 0 0 g.o.length)::.raw (.int .u64 (g.c:Int))::rN g.i::j16 (j16 (j4 (j4 (j4 (jk::jk::[])))))),Hm [(46,[⟨165,1,lc fU g.o⟩])]⟩) (fun g=>max m.length n.length-g.i) ⟨0,[],0,by omega,by omega,rfl,rfl⟩ ?_ ?_
 ·refine(cz (k:=5) (d:=46) 165 1 (by omega) rfl rfl).trans (aj ⟨rfl,trivial⟩ ?_);simp[wk]
 rintro⟨i,o,c,B,A,r,h⟩;simp only;have w:max m.length n.length<=1073741824:=by omega
 by_cases v:i<m.length
 ·obtain⟨a,l⟩:=getElem?_of_lt v;have u:=bV x l;refine ai (ar (k:=az rfl (ak (ai (am (ai (ar (k:=az rfl (dF l (k:=ai (bi (k:=?_))))))))))));by_cases q:i<n.length
  ·obtain⟨b,f⟩:=getElem?_of_lt q;have p:=bV t f;refine bs rfl (fun _=>?_) (fun h=>by simp at h<;>omega);refine dF f (k:=?_);show bA _ _ _ _;have e:IntKind.u32.wrap ((c:Int)+(a:Int)+(b:Int))=(((c+a+b)%4294967296:Nat):Int):=by rfl
   have j:Int.fdiv ((c:Int)+(a:Int)+(b:Int)) (2^(min 32 IntKind.u64.bits))=(((c+a+b)/4294967296:Nat):Int):=by rw[<- P3];rfl
   refine aH (aC e @kB) (k:=gL j (k:=bu (k:=?_)));refine⟨⟨i+1,o++[(c+a+b)%4294967296],(c+a+b)/4294967296,by omega,by omega,by simp[r],?_⟩,by simp only;omega,aj ⟨rfl,trivial⟩ ?_⟩
   ·rw[<- h,ee l,ee f,sumL,acI];rfl
   simp[wk]
  refine bs rfl (fun h=>by simp at h<;>omega) (fun _=>ak ?_);show bA _ _ _ _;have e:IntKind.u32.wrap ((c:Int)+(a:Int))=(((c+a)%4294967296:Nat):Int):=by rfl
  have j:Int.fdiv ((c:Int)+(a:Int)) (2^(min 32 IntKind.u64.bits))=(((c+a)/4294967296:Nat):Int):=by rw[<- P3];rfl
  refine aH (aC e @kB) (k:=gL j (k:=bu (k:=?_)));refine⟨⟨i+1,o++[(c+a)%4294967296],(c+a)/4294967296,by omega,by omega,by simp[r],?_⟩,by simp only;omega,aj ⟨rfl,trivial⟩ ?_⟩
  ·rw[<- h,ee l,fb (by omega:n.length<=i),fb (by omega:n.length<=i+1),sumL,acI];rfl
  simp[wk]
 by_cases q:i<n.length
 ·obtain⟨b,f⟩:=getElem?_of_lt q;have p:=bV t f;refine ai (ar (k:=az rfl (ak (ai (am (ai (ar (k:=ao rfl (ak (ai (ar (k:=az rfl (dF f (k:=?_))))))))))))));show bA _ _ _ _;have e:IntKind.u32.wrap ((c:Int)+(b:Int))=(((c+b)%4294967296:Nat):Int):=by rfl
  have j:Int.fdiv ((c:Int)+(b:Int)) (2^(min 32 IntKind.u64.bits))=(((c+b)/4294967296:Nat):Int):=by rw[<- P3];rfl
  refine aH (aC e @kB) (k:=gL j (k:=bu (k:=?_)));refine⟨⟨i+1,o++[(c+b)%4294967296],(c+b)/4294967296,by omega,by omega,by simp[r],?_⟩,by simp only;omega,aj ⟨rfl,trivial⟩ ?_⟩
  ·rw[<- h,ee f,fb (by omega:m.length<=i),fb (by omega:m.length<=i+1),sumL,acI];rfl
  simp[wk]
 refine ai (ar (k:=ao rfl (aX ?_)));show bA _ _ _ _;have e:IntKind.u32.wrap (c:Int)=(c:Int):=by rw[BT];omega
 refine aH (aC e @kB) (k:=?_);have s:sumL m n 0=o++[c]:=by grind [fb,sumL]
 (refine aQ ⟨.inr rfl,dp 46 (bf rfl) ?_ rfl⟩;simp(disch:=omega) only[kd,results172,cW])
 grind
def diffL:List Nat->List Nat->Nat->List Nat
 |[],_,_=>[]
 |a::m,[],w=>(a+8589934592-w)%4294967296::diffL m [] (if a<w then 1 else 0)
 |a::m,b::n,w=>(a+8589934592-(w+b))%4294967296::diffL m n (if a<w+b then 1 else 0)
theorem j5: ∀(m n:List Nat) (w:Nat),Lmb m->Lmb n->w<=1->n.length<=m.length->natV n+w<=natV m->natV (diffL m n w)+(natV n+w)=natV m
 |[],[],w,_,_,_,_,h=>by grind [diffL,natV]
 |[],b::n,w,_,_,_,h,_=>by simp at h
 |a::m,[],w,c,e,g,f,h=>by
  rw[dJ]at c;simp only[natV]at h;have:=j5 m [] (if a<w then 1 else 0) c.2 e (by grind) (by simp) (by grind [natV]);grind [diffL,natV]
 |a::m,b::n,w,c,e,g,f,h=>by
  rw[dJ]at c e;simp only[natV]at h;have:=j5 m n (if a<w+b then 1 else 0) c.2 e.2 (by grind) (by grind) (by grind);grind [diffL,natV]
theorem lJ: ∀(m n:List Nat) (w:Nat),Lmb (diffL m n w)
 |[],n,w=>by simp[diffL,Lmb]
 |a::m,[],w=>by rw[diffL,dJ];exact⟨acM _ (by omega),lJ m [] _⟩
 |a::m,b::n,w=>by rw[diffL,dJ];exact⟨acM _ (by omega),lJ m n _⟩
theorem lF: ∀(m n:List Nat) (w:Nat),(diffL m n w).length=m.length
 |[],n,w=>by simp[diffL]
 |a::m,[],w=>by simp[diffL,lF m []]
 |a::m,b::n,w=>by simp[diffL,lF m n]
structure aa8 (m n:List Nat) where
 i:Nat
 o:List Nat
 c:Nat
 hi:i<=m.length
 hc:c<=1
 ho:o.length=i
 h:o++diffL (m.drop i) (n.drop i) c=diffL m n 0
theorem oD (m n:List Nat) (v:Lmb m) (w:Lmb n) (x:m.length<=1073741824) (y:n.length<=1073741824):
  CallC prog 173 [cW m,cW n] ⟨[],cW (diffL m n 0)⟩:=by
 refine ax func173 rfl ntmps173 (aA (k:=bi (k:=bi (k:=ai (bi (k:=?_))))));refine ay (G:=aa8 m n) (fun g=>⟨(cW m::cW n::jk::jk::.raw (.slice none 0 0)::.one (.sl 37 0 0 g.o.length)::.raw (.int .u64 (g.c:Int))::rN g.i::j16 (j16 (j4 (jk::jk::[])))),Hm [(37,[⟨165,1,lc fU g.o⟩])]⟩) (fun g=>m.length-g.i) ⟨0,[],0,by omega,by omega,rfl,rfl⟩ ?_ ?_
 ·refine(cz (k:=5) (d:=37) 165 1 (by omega) rfl rfl).trans (aj ⟨rfl,trivial⟩ ?_);simp[wk]
 rintro⟨i,o,c,A,z,l,h⟩;simp only;by_cases t:i<m.length
 ·obtain⟨a,f⟩:=getElem?_of_lt t;have r:=bV v f;refine ai (ar (k:=az rfl (ak (ai (am (bi (k:=ai (bi (k:=?_)))))))));by_cases u:i<n.length
  ·obtain⟨b,j⟩:=getElem?_of_lt u;have s:=bV w j;refine bs rfl (fun _=>?_) (fun h=>by simp at h<;>omega);refine dF j (k:=?_);show bA _ _ _ _;have p:IntKind.u32.wrap (IntKind.u64.wrap ((a:Int)-((c:Int)+(b:Int))))=(((a+8589934592-(c+b))%4294967296:Nat):Int):=by rw[ad8,adb];omega
   refine aH (aC f (aC p @kB)) (k:=bi (k:=aH f (k:=?_)));by_cases e:a<c+b
   ·refine bs rfl (fun _=>?_) (fun h=>by simp at h<;>omega);refine bu (k:=bu (k:=?_));refine⟨⟨i+1,o++[(a+8589934592-(c+b))%4294967296],1,by omega,by omega,by simp[l],?_⟩,by simp only;omega,aj ⟨rfl,trivial⟩ ?_⟩
    ·rw[<- h,ee f,ee j,diffL,acI,if_pos e];rfl
    simp[wk]
   refine bs rfl (fun h=>by simp at h<;>omega) (fun _=>ak ?_);show bA _ _ _ _;refine bu (k:=?_);refine⟨⟨i+1,o++[(a+8589934592-(c+b))%4294967296],0,by omega,by omega,by simp[l],?_⟩,by simp only;omega,aj ⟨rfl,trivial⟩ ?_⟩
   ·rw[<- h,ee f,ee j,diffL,acI,if_neg e];rfl
   simp[wk]
  refine bs rfl (fun h=>by simp at h<;>omega) (fun _=>ak ?_);show bA _ _ _ _;have p:IntKind.u32.wrap (IntKind.u64.wrap ((a:Int)-(c:Int)))=(((a+8589934592-c)%4294967296:Nat):Int):=by rw[ad8,adb];omega
  refine aH (aC f (aC p @kB)) (k:=bi (k:=aH f (k:=?_)));by_cases e:a<c
  ·refine bs rfl (fun _=>?_) (fun h=>by simp at h<;>omega);refine bu (k:=bu (k:=?_));refine⟨⟨i+1,o++[(a+8589934592-c)%4294967296],1,by omega,by omega,by simp[l],?_⟩,by simp only;omega,aj ⟨rfl,trivial⟩ ?_⟩
   ·rw[<- h,ee f,fb (by omega:n.length<=i),fb (by omega:n.length<=i+1),diffL,acI,if_pos e];rfl
   simp[wk]
  refine bs rfl (fun h=>by simp at h<;>omega) (fun _=>ak ?_);show bA _ _ _ _;refine bu (k:=?_);refine⟨⟨i+1,o++[(a+8589934592-c)%4294967296],0,by omega,by omega,by simp[l],?_⟩,by simp only;omega,aj ⟨rfl,trivial⟩ ?_⟩
  ·rw[<- h,ee f,fb (by omega:n.length<=i),fb (by omega:n.length<=i+1),diffL,acI,if_neg e];rfl
  simp[wk]
 refine ai (ar (k:=ao rfl (aX (bi (k:=?_)))));have q:diffL m n 0=o:=by grind [diffL]
 (refine aQ ⟨.inr rfl,dp 37 (bf rfl) ?_ rfl⟩;simp(disch:=omega) only[kd,results173,cW])
 grind
abbrev Bh (z:Int):Prop:=Sz z 536870912
theorem Bh.bg (h:Bh x):Bg x:=h.mono (by omega)
theorem Bh.len (h:Bh x):(au x.natAbs).length<=536870912:=lI h
theorem Sz.neg {k:Nat} (h:Sz x k):Sz (-x) k:=by grind [Sz]
theorem Bh.neg (h:Bh x):Bh (-x):=Sz.neg h
theorem QK {a:Int} (h:decide (a<0)=decide (x<0)):iq (decide (a<0)) (a.natAbs+x.natAbs)=a+x:=by
 grind [iq]
theorem FT {a:Int} (h:decide (a<0)≠decide (x<0)) (c:x.natAbs<=a.natAbs) {d:Nat} (e:d+(x.natAbs+0)=a.natAbs):iq (decide (a<0)) d=a+x:=by
 grind [iq]
theorem kE {m:List Nat} (f:Lmb b) (c:xO m) (h:natV m<=natV b):m.length<=b.length:=by
 by_cases e:m.length<=b.length
 ·exact e
 have:=kG f c (by omega);omega
theorem rD (a b:Int) (o:Bh a) (p:Bh b):CallC prog 123 [tZ a,tZ b] ⟨[],tZ (a+b)⟩:=by
 have q:=o.len;have r:=p.len;have t1:=jE (au a.natAbs) o.bg.len;have t2:=jE (au b.natAbs) p.bg.len;rw[jF]at t1 t2;by_cases l:decide (a<0)=decide (b<0)
 ·have f:=abG (au a.natAbs) (au b.natAbs) (aI _) (aI _) (by omega) (by omega);have e:=jZ (decide (a<0)) (sumL (au a.natAbs) (au b.natAbs) 0) (qi _ _ _ (aI _) (aI _) (by omega)) (by rw[vk];omega);rw[nC,aG,aG,ac9,QK l]at e;have c:(decide (a<0)==decide (b<0))=true:=by simp[l]
  refine ax func123 rfl ntmps123 (aA (k:=da [⟨2,_,_,_,t1⟩,⟨5,_,_,_,t2⟩] (k:=ai (aH c (k:=az rfl (da [⟨4,_,_,_,f⟩,⟨5,_,_,_,e⟩] (k:=aE @results123)))))))
 have c:(decide (a<0)==decide (b<0))=false:=by grind
 have f:=LR (au a.natAbs) (au b.natAbs) (aI _) (aI _) (cb _) (cb _) (by omega) (by omega);rw[aG,aG]at f;by_cases n:b.natAbs<=a.natAbs
 ·have m:0<=iP a.natAbs b.natAbs:=by grind [iP]
  have e:=oD (au a.natAbs) (au b.natAbs) (aI _) (aI _) (by omega) (by omega);have g:=jZ (decide (a<0)) (diffL (au a.natAbs) (au b.natAbs) 0) (lJ _ _ _) (by rw[lF];omega);have j:=j5 (au a.natAbs) (au b.natAbs) 0 (aI _) (aI _) (by omega) (kE (aI _) (cb _) (by grind [aG])) (by grind [aG]);rw[aG,aG]at j;rw[FT l n j]at g;refine ax func123 rfl ntmps123 (aA (k:=da [⟨2,_,_,_,t1⟩,⟨5,_,_,_,t2⟩] (k:=ai (aH c (k:=ao rfl (ak (ai (bE [⟨2,_,_,_,f⟩] (k:=az rfl (da [⟨4,_,_,_,e⟩,⟨5,_,_,_,g⟩] (k:=aE @results123)))))))))))
 have m:iP a.natAbs b.natAbs<0:=by grind [iP]
 have e:=oD (au b.natAbs) (au a.natAbs) (aI _) (aI _) (by omega) (by omega);have g:=jZ (decide (b<0)) (diffL (au b.natAbs) (au a.natAbs) 0) (lJ _ _ _) (by rw[lF];omega);have j:=j5 (au b.natAbs) (au a.natAbs) 0 (aI _) (aI _) (by omega) (kE (aI _) (cb _) (by grind [aG])) (by grind [aG]);rw[aG,aG]at j;rw[FT (fun h=>l h.symm) (by omega) j,Int.add_comm]at g;refine ax func123 rfl ntmps123 (aA (k:=da [⟨2,_,_,_,t1⟩,⟨5,_,_,_,t2⟩] (k:=ai (aH c (k:=ao rfl (ak (ai (bE [⟨2,_,_,_,f⟩] (k:=ao rfl (ak (da [⟨4,_,_,_,e⟩,⟨5,_,_,_,g⟩] (k:=aE @results123))))))))))))
theorem wQ (a b:Int) (g:Bh a) (e:Bh b):CallC prog 77 [tZ a,tZ b] ⟨[],tZ (a-b)⟩:=by
 have f:=G5 b e.bg;have c:=rD a (-b) g e.neg;rw[<- agJ]at c;refine ax func77 rfl ntmps77 (aA (k:=da [⟨2,_,_,_,f⟩,⟨3,_,_,_,c⟩] (k:=aE @results77)))
theorem nB: ∀(l:List Nat) (k v o:Nat),l[k]?=some o->natV (l.set k v)+o*4294967296^k=natV l+v*4294967296^k
 |[],k,v,o,h=>by simp at h
 |a::l,0,v,o,h=>by grind [natV]
 |a::l,k+1,v,o,h=>by
  simp at h;have:=nB l k v o h;simp only[aeP,natV,adk];grind
theorem oL (h:Lmb b) {k:Nat} (e:n<4294967296):Lmb (b.set k n):=fun a c=>by
 rcases adG c with c|rfl
 ·exact h a c
 exact e
theorem ju (n:Nat):natV (ae n 0)=0:=by induction n with
 |zero=>rfl
 |succ n b=>simp[aeL,natV,b]
theorem bI {i a:Nat} (h:b[i]?=some a):natV (b.take (i+1))=natV (b.take i)+a*4294967296^i:=by
 grind [List.take_succ_eq_append_getElem,kD,natV]
theorem lj (n:Nat):ae n [AV.p (.raw (.int .u32 0))]=lc fU (ae n 0):=by simp[lc,fU]
theorem cX (l:List Nat) (k v:Nat):(lc fU l).set k [AV.p (.raw (.int .u32 (v:Int)))]=lc fU (l.set k v):=by simp_all[lc,fU]
structure Nl (A B:List Nat) where
 i:Nat
 O:List Nat
 hi:i<=A.length
 len:O.length=A.length+B.length
 lmb:Lmb O
 val:natV O=natV (A.take i)*natV B
 zero: ∀k,i+B.length<=k->k<A.length+B.length->O[k]?=some 0
structure Qd (A B:List Nat) (i a:Nat) where
 j:Nat
 O:List Nat
 c:Nat
 hj:j<=B.length
 len:O.length=A.length+B.length
 lmb:Lmb O
 hc:c<4294967296
 val:natV O+c*4294967296^(i+j)=natV (A.take i)*natV B+a*natV (B.take j)*4294967296^i
 zero: ∀k,i+B.length<=k->k<A.length+B.length->O[k]?=some 0
theorem qR {a:Nat} (c:a<4294967296) (e:n<4294967296):a*n<=18446744065119617025:=by
 have:a*n<=4294967295*4294967295:=acU (by omega) (by omega);omega
theorem CJ {B:List Nat} {i a:Nat} (g:Qd b B i a) {o:Nat} (q:B[g.j]?=some n) (p:g.O[i+g.j]?=some o) (w:i<b.length) (r:a<4294967296) (h:n<4294967296):
  ∃e:Qd b B i a,e.j=g.j+1/\e.O=g.O.set (i+g.j) ((g.c+(a*n+o))%4294967296)/\e.c=(g.c+(a*n+o))/4294967296:=by
 have f:g.j<B.length:=(aci.1 q).1;have s:=bV g.lmb p;have u:=qR r h;have v:=g.hc;refine⟨⟨g.j+1,g.O.set (i+g.j) ((g.c+(a*n+o))%4294967296),(g.c+(a*n+o))/4294967296,f,by simp[g.len],oL g.lmb (acM _ (by omega)),?_,?_,fun k l m=>?_⟩,rfl,rfl,rfl⟩
 ·omega
 ·have l:=nB g.O (i+g.j) ((g.c+(a*n+o))%4294967296) o p;have m:=bI q;have t:=g.val;grind [Nat.mod_add_div]
 rw[ac4 (by omega)];exact g.zero k l m
theorem CI {B:List Nat} {i a:Nat} (m:b[i]?=some a) (g:Qd b B i a) (q: ¬g.j<B.length): ∃f:Nl b B,f.i=i+1/\f.O=g.O.set (i+B.length) g.c:=by
 have n:=(aci.1 m).1;have o:=g.hj;have e:g.j=B.length:=by omega
 have p:=g.zero (i+B.length) (acs _) (by omega);refine⟨⟨i+1,g.O.set (i+B.length) g.c,n,by simp[g.len],oL g.lmb g.hc,?_,fun k l h=>?_⟩,rfl,rfl⟩
 ·have l:=nB g.O (i+B.length) g.c 0 p;have h:=g.val;grind [bI]
 rw[ac4 (by omega)];exact g.zero k (by omega) h
theorem Mx (a b:Int):iq (!(decide (a<0)==decide (b<0))) (a.natAbs*b.natAbs)=a*b:=by
 grind [iq]
abbrev tc (neg:Bool) (A:List Nat):List OObj:=[⟨65,2,[[.p (.raw (.bool neg)),.p (.sl (ls fU A))]]⟩]
abbrev ru:List OObj:=[⟨65,2,[[.raw (.bool false),.raw (.slice none 0 0)]]⟩]
theorem io (a b:Int) (P:Bh a) (D:Bh b):CallC prog 78 [tZ a,tZ b] ⟨[],tZ (a*b)⟩:=by
 have Y:=P.len;have Z:=D.len;have t:=aI a.natAbs;have u:=aI b.natAbs;have vA:=aG a.natAbs;have vB:=aG b.natAbs;refine fL func78 rfl (by kernel_rfl) ?_;rw[ntmps78];refine aw fun _ K=>?_;simp(disch:=omega) only[kd,aa,tZ,ae,ab];apply K
 generalize au a.natAbs=A at*
 generalize au b.natAbs=B at*
 have I:((A.length:Int)+(B.length:Int)).toNat=A.length+B.length:=by omega
 refine aw fun _ K=>?_;simp(disch:=omega) only[kd,aa,ab,aL,I,lj];apply K
 refine ai (aw fun _ K=>?_);simp(disch:=omega) only[kd,aa,ab];apply K;refine ay (G:=Nl A B) (fun g=>⟨(jk::jk::.one (.ptr 2 0 0 0)::.one (.ptr 3 0 0 0)::.one (.ptr 4 0 0 0)::.one (.sl 18 0 0 (A.length+B.length))::j4 (j4 (j4 (jk::jk::cW A::rN A.length::rN g.i::j16 (j16 (j16 (j4 (jk::jk::[])))))))),Hm [(2,tc (decide (a<0)) A),(3,tc (decide (b<0)) B),(4,ru),(18,[⟨165,1,lc fU g.O⟩])]⟩) (fun g=>A.length-g.i) ⟨0,ae (A.length+B.length) 0,by omega,by simp,fun x f=>by simp at f;omega,by simp[ju,natV],fun k V N=>by rw[ac5,if_pos N]⟩ ?_ ?_
 ·refine aj ⟨rfl,rfl,rfl,rfl,trivial⟩ ?_;simp[wk]
 rintro⟨i,O,W,len,lmb,val,zero⟩;simp only;by_cases F:i<A.length
 ·obtain⟨x,f⟩:=getElem?_of_lt F;have h:=bV t f;refine aw fun _ K=>?_;simp(disch:=omega) only[kd,cW];apply K
  refine aV rfl ?_;refine ai (am ?_);refine aw fun _ K=>?_;simp(disch:=omega) only[kd,aa,f];apply K
  refine aw fun _ K=>?_;simp only[kd];apply K
  refine ai (aw fun _ K=>?_);simp(disch:=omega) only[kd,aa,ab];apply K;refine ay (G:=Qd A B i x) (fun g=>⟨(jk::jk::.one (.ptr 2 0 0 0)::.one (.ptr 3 0 0 0)::.one (.ptr 4 0 0 0)::.one (.sl 18 0 0 (A.length+B.length))::rN i::.raw (.int .u32 (x:Int))::.raw (.int .u64 (g.c:Int))::j4 (j4 (jk::jk::jk::cW A::rN A.length::rN i::j4 (jk::cW B::rN B.length::rN g.j::j16 (j16 (j4 (j4 (j4 (jk::jk::[]))))))))),Hm [(2,tc (decide (a<0)) A),(3,tc (decide (b<0)) B),(4,ru),(18,[⟨165,1,lc fU g.O⟩])]⟩) (fun g=>B.length-g.j) ⟨0,O,0,by omega,len,lmb,by omega,by simpa[natV] using val,zero⟩ ?_ ?_
  ·refine aj ⟨rfl,rfl,rfl,rfl,trivial⟩ ?_;simp[wk]
  intro g;by_cases H:g.j<B.length
  ·obtain⟨y,v⟩:=getElem?_of_lt H;have l:=bV u v;have E:=g.len;obtain⟨o,n⟩:=getElem?_of_lt (show i+g.j<g.O.length by omega);have S:=bV g.lmb n;have D:=qR h l;have s:=g.hc;obtain⟨r,w,z,U⟩:=CJ g v n F h l;have m:((i:Int)+(g.j:Int)).toNat=i+g.j:=by omega
   have J:(x:Int)*(y:Int)=((x*y:Nat):Int):=by simp
   generalize X:x*y=p at*
   have q:IntKind.u32.wrap ((g.c:Int)+((p:Int)+(o:Int)))=(((g.c+(p+o))%4294967296:Nat):Int):=by rfl
   have L:Int.fdiv ((g.c:Int)+((p:Int)+(o:Int))) (2^(min 32 IntKind.u64.bits))=(((g.c+(p+o))/4294967296:Nat):Int):=by grind [P3]
   refine aw fun _ K=>?_;simp(disch:=omega) only[kd,cW];apply K
   refine aV rfl ?_;refine ai (am ?_);refine aw fun _ K=>?_;simp(disch:=omega) only[kd,aa,v];apply K
   refine aw fun _ K=>?_;simp(disch:=omega) only[kd,aa,cJ,J,aL,m,ab,n];apply K
   refine aw fun _ K=>?_;simp(disch:=omega) only[kd,aa,aL,q,m,ab,n,cX];apply K
   refine g9 fun _ K=>?_;simp only[kd,aa,Int.reduceLE,Int.reduceToNat,L];apply K
   show bA _ _ _ _;refine g9 fun _ K=>?_;simp(disch:=omega) only[kd,aL];apply K
   refine⟨r,by omega,aj ⟨rfl,rfl,rfl,by rw[z];rfl,trivial⟩ ?_⟩;simp[wk,w,U]
  have Q:=g.hj;have s:=g.hc;have R:=g.len;obtain⟨r,w,z⟩:=CI f g H;have m:((i:Int)+(B.length:Int)).toNat=i+B.length:=by omega
  have q:IntKind.u32.wrap (g.c:Int)=(g.c:Int):=by rw[BT];omega
  refine aw fun _ K=>?_;simp(disch:=omega) only[kd,cW];apply K
  refine aW rfl ?_;show bA _ _ _ _;have T:=g.zero (i+B.length) (acs _) (by omega);refine g9 fun _ K=>?_;simp(disch:=omega) only[kd,aa,ab,aL,q,m,T,cX];apply K
  show bA _ _ _ _;refine g9 fun _ K=>?_;simp(disch:=omega) only[kd,aL];apply K
  refine⟨r,by omega,aj ⟨rfl,rfl,rfl,by rw[z];rfl,trivial⟩ ?_⟩;simp[wk,w]
 have e:natV O=a.natAbs*b.natAbs:=by
  grind
 have C:=jZ (!(decide (a<0)==decide (b<0))) O lmb (by omega);rw[e,Mx]at C;refine aw fun _ K=>?_;simp(disch:=omega) only[kd,cW];apply K
 refine aW rfl ?_;show bA _ _ _ _;refine bA.weak (bF 18 (bf rfl)) ?_;have M:List.take (A.length+B.length) O=O:=ack (by omega);simp(disch:=omega) only[kd,tZ,ab,M];refine bC [⟨6,_,_,_,C⟩] [] fun _ K=>?_;simp(disch:=omega) only[kd,cW,tZ,aa,ab];apply K
 (refine aQ ⟨.inr rfl,b8 rfl ?_ rfl⟩;simp(disch:=omega) only[kd,results78,ab,aa])
def dblL:List Nat->Nat->List Nat
 |[],b=>[b]
 |x::l,b=>(2*x+b)%4294967296::dblL l (x/2147483648)
theorem CN: ∀(l:List Nat) (b:Nat),Lmb l->b<=1->natV (dblL l b)=2*natV l+b
 |[],b,_,_=>by simp[dblL,natV]
 |x::l,b,c,e=>by
  rw[dJ]at c;have f:=c.1;simp only[dblL,natV,CN l (x/2147483648) c.2 (by omega)];omega
theorem GS: ∀(l:List Nat) (b:Nat),Lmb l->b<=1->Lmb (dblL l b)
 |[],b,_,e=>by grind [dblL,Lmb]
 |x::l,b,c,e=>by
  rw[dJ]at c;have f:=c.1;rw[dblL,dJ];exact⟨acM _ (by omega),GS l _ c.2 (by omega)⟩
theorem Gh: ∀(l:List Nat) (b:Nat),(dblL l b).length=l.length+1
 |[],b=>rfl
 |x::l,b=>by simp[dblL,Gh l]
theorem qm (a b n:Nat) (h:b<2^n):(a*2^n)|||b=a*2^n+b:=by
 have:=Nat.shiftLeft_add_eq_or_of_lt h a;grind [Nat.shiftLeft_eq]
theorem x7 (a b n:Nat) (h:b<2^n):b|||(a*2^n)=a*2^n+b:=by rw[Nat.or_comm,qm a b n h]
theorem Wx (a b:Nat) (c:a<4294967296) (f:b<4294967296):IntKind.u32.wrap (((BitVec.ofInt IntKind.u32.bits (a:Int)|||BitVec.ofInt IntKind.u32.bits (b:Int)).toNat:Nat):Int)=((a|||b:Nat):Int):=by
 rw[BT];show(((BitVec.ofInt 32 (a:Int)|||BitVec.ofInt 32 (b:Int)).toNat%4294967296:Nat):Int)=_;rw[BitVec.toNat_or];have e: ∀x:Nat,x<4294967296->(BitVec.ofInt 32 (x:Int)).toNat=x:=fun x g=>by grind
 grind
theorem Ew (a b:Nat) (c:a<18446744073709551616) (f:b<18446744073709551616):IntKind.u64.wrap (((BitVec.ofInt IntKind.u64.bits (a:Int)|||BitVec.ofInt IntKind.u64.bits (b:Int)).toNat:Nat):Int)=((a|||b:Nat):Int):=by
 rw[adb];show((BitVec.ofInt 64 (a:Int)|||BitVec.ofInt 64 (b:Int)).toNat:Int)%_=_;rw[BitVec.toNat_or];have e: ∀x:Nat,x<18446744073709551616->(BitVec.ofInt 64 (x:Int)).toNat=x:=fun x g=>by grind
 grind
theorem abh (a b:Nat) (c:a<4294967296) (e:b<4294967296):IntKind.u32.wrap (((BitVec.ofInt IntKind.u32.bits (a:Int)&&&BitVec.ofInt IntKind.u32.bits (b:Int)).toNat:Nat):Int)=((a&&&b:Nat):Int):=by
 rw[BT];show(((BitVec.ofInt 32 (a:Int)&&&BitVec.ofInt 32 (b:Int)).toNat%4294967296:Nat):Int)=_;grind [Nat.and_le_left]
structure abQ (l:List Nat) (b:Nat) where
 i:Nat
 o:List Nat
 c:Nat
 hi:i<=l.length
 hc:c<=1
 ho:o.length=i
 h:o++dblL (l.drop i) c=dblL l b
theorem Rr (l:List Nat) (b:Nat) (u:Lmb l) (r:b<=1) (v:l.length<=1073741824):CallC prog 221 [cW l,.raw (.int .u32 (b:Int))] ⟨[],cW (dblL l b)⟩:=by
 refine ax func221 rfl ntmps221 (aA (k:=bi (k:=ai (bi (k:=?_)))));refine ay (G:=abQ l b) (fun g=>⟨(cW l::.raw (.int .u32 (g.c:Int))::jk::jk::.raw (.slice none 0 0)::.one (.sl 20 0 0 g.o.length)::jk::jk::cW l::rN l.length::rN g.i::j16 (jk::[])),Hm [(20,[⟨165,1,lc fU g.o⟩])]⟩) (fun g=>l.length-g.i) ⟨0,[],b,by omega,r,rfl,rfl⟩ ?_ ?_
 ·refine(cz (k:=5) (d:=20) 165 1 (by omega) rfl rfl).trans (aj ⟨rfl,trivial⟩ ?_);simp[wk]
 rintro⟨i,o,c,x,w,t,h⟩;simp only;by_cases s:i<l.length
 ·obtain⟨a,e⟩:=getElem?_of_lt s;have q:=bV u e;have m:IntKind.u32.wrap ((a:Int)*2^min 1 IntKind.u32.bits)=((2*a%4294967296:Nat):Int):=by
   rw[<- BT];congr 1;show(a:Int)*2=_;omega
  have f:=Wx (2*a%4294967296) c (by omega) (by omega);have n:(2*a%4294967296)|||c=(2*a+c)%4294967296:=by
   have:=qm (a%2147483648) c 1 (by omega);grind
  rw[n]at f;have p:Int.fdiv (a:Int) (2^(min 31 IntKind.u32.bits))=((a/2147483648:Nat):Int):=by
   show Int.fdiv (a:Int) 2147483648=_;grind
  refine ar (k:=aV rfl (ai (am (aH e (k:=aH (aC m (aC f @kB)) (k:=gL p (k:=bu (k:=?_))))))));refine⟨⟨i+1,o++[(2*a+c)%4294967296],a/2147483648,by omega,by omega,by simp[t],?_⟩,by simp only;omega,aj ⟨rfl,trivial⟩ ?_⟩
  ·rw[<- h,ee e,dblL,acI];rfl
  simp[wk]
 refine ar (k:=aW rfl (aH @kB (k:=?_)));have j:dblL l b=o++[c]:=by grind [dblL]
 (refine aQ ⟨.inr rfl,dp 20 (bf rfl) ?_ rfl⟩;simp(disch:=omega) only[kd,results221,cW])
 grind
structure abb (l:List Nat) where
 i:Nat
 u:Nat
 hi:i<=l.length/\i<=2
 hu:u=natV (l.take i)
theorem gm (h:Lmb b) (k:Nat):natV (b.take k)<4294967296^k:=by
 grind [Lmb,fF,Nat.lt_of_lt_of_le,Nat.pow_le_pow_right,List.length_take]
theorem Sj (l:List Nat) (o:Lmb l) (s:l.length<=1073741824):CallC prog 73 [cW l] ⟨[],.raw (.int .u64 (natV (l.take 2):Nat))⟩:=by
 refine ax func73 rfl ntmps73 (aA (k:=bi (k:=ai (bi (k:=?_)))));refine ay (G:=abb l) (fun g=>⟨(cW l::jk::.raw (.int .u64 0)::.raw (.int .u64 (g.u:Int))::rN g.i::j16 (j4 (jk::[]))),Hm []⟩) (fun g=>l.length-g.i) ⟨0,0,⟨by omega,by omega⟩,rfl⟩ ?_ ?_
 ·refine aj trivial ?_;simp[wk]
 rintro⟨i,u,v,n⟩;simp only;have b:=gm o i;rw[<- n]at b;by_cases m:i<l.length/\i<2
 ·obtain⟨a,f⟩:=getElem?_of_lt m.1;have p:=bV o f;have r:=m.2;have q:=m.1;have hu2:=bI f;rw[<- n]at hu2;refine ai (ar (k:=az rfl (ak (ai (am ?_)))));have j:i=0\/i=1:=by omega
  rcases j with rfl|rfl
  ·have h:IntKind.u64.wrap ((a:Int)*2^min (32*((0:Nat):Int)).toNat IntKind.u64.bits)=(a:Int):=by
    grind [IntKind.wrap_u64]
   have hu0:u=0:=by omega
   have c:=Ew u a (by omega) (by omega);rw[hu0,Nat.zero_or,<- hu0]at c;refine dF (aC f (aC h c)) (k:=bu (k:=?_));refine⟨⟨1,a,⟨by omega,by omega⟩,by grind⟩,by grind,aj trivial ?_⟩;simp[wk]
  have h:IntKind.u64.wrap ((a:Int)*2^min (32*((1:Nat):Int)).toNat IntKind.u64.bits)=((a*4294967296:Nat):Int):=by
   rw[adb];show((a:Int)*4294967296)%_=_;omega
  simp only[Nat.pow_one]at b;have c:=Ew u (a*4294967296) (by omega) (by omega);rw[show a*4294967296=a*2^32 from rfl,x7 _ _ _ b,show a*2^32=a*4294967296 from rfl]at c;refine dF (aC f (aC h c)) (k:=bu (k:=?_));refine⟨⟨2,a*4294967296+u,⟨by omega,by omega⟩,by grind⟩,by grind,aj trivial ?_⟩;simp[wk]
 have e:u=natV (l.take 2):=by
  grind
 rw[<- e];by_cases t:i<l.length
 ·refine ai (ar (k:=ao rfl (aX (bi (k:=aE @results73)))))
 refine ai (ar (k:=ao rfl (aX (bi (k:=aE @results73)))))
end Go.Proofs.YtalmoejhjceflaaGreat
