/-
  Part 15 of a proof (walks and plain facts).
-/
import Derived.Test.YtalmoejhjceflaaGreatR13
set_option linter.all false
set_option maxRecDepth 100000
set_option maxHeartbeats 64000000
open Nat renaming reduceAdd → aa
open Nat renaming reduceEqDiff → ab
open List renaming replicate → ae
open Nat renaming reduceBEq → af
namespace Go.Proofs.YtalmoejhjceflaaGreat
open Go.RowKit Go.Proofs.Tryz
variable {n m:Nat} {b:List Nat} {x:Int} {c:List (List Int)} {e:FF}
def sumL:List Nat->List Nat->Nat->List Nat
 |[],[],c=>[c]
 |a::m,[],c=>(c+a)%4294967296::sumL m [] ((c+a)/4294967296)
 |[],b::n,c=>(c+b)%4294967296::sumL [] n ((c+b)/4294967296)
 |a::m,b::n,c=>(c+a+b)%4294967296::sumL m n ((c+a+b)/4294967296)
theorem me: ∀(m n:List Nat) (c:Nat),natV (sumL m n c)=natV m+natV n+c
 |[],[],c=>by simp[sumL,natV]
 |a::m,[],c=>by simp only[sumL,natV,me m []];omega
 |[],b::n,c=>by simp only[sumL,natV,me [] n];omega
 |a::m,b::n,c=>by simp only[sumL,natV,me m n];omega
theorem dt {a:Nat}:Lmb (a::b)↔a<4294967296/\Lmb b:=by simp[Lmb]
theorem oo: ∀(m n:List Nat) (c:Nat),Lmb m->Lmb n->c<=1->Lmb (sumL m n c)
 |[],[],c,_,_,g=>by grind [sumL,Lmb]
 |a::m,[],c,e,f,g=>by
  rw[dt]at e;rw[sumL,dt];exact⟨aaQ _ (by omega),oo m [] _ e.2 f (by omega)⟩
 |[],b::n,c,e,f,g=>by
  rw[dt]at f;rw[sumL,dt];exact⟨aaQ _ (by omega),oo [] n _ e f.2 (by omega)⟩
 |a::m,b::n,c,e,f,g=>by
  rw[dt]at e f;rw[sumL,dt];exact⟨aaQ _ (by omega),oo m n _ e.2 f.2 (by omega)⟩
theorem r6: ∀(m n:List Nat) (c:Nat),(sumL m n c).length=max m.length n.length+1
 |[],[],c=>by simp[sumL]
 |a::m,[],c=>by simp[sumL,r6 m []]
 |[],b::n,c=>by simp[sumL,r6 [] n]
 |a::m,b::n,c=>by simp[sumL,r6 m n]
theorem dQ {i a:Nat} (h:b[i]?=some a):b.drop i=a::b.drop (i+1):=by
 grind [List.drop_eq_getElem_cons]
theorem d8 {i:Nat} (h:b.length<=i):b.drop i=[]:=acf.2 h
theorem bW {i a:Nat} (c:Lmb b) (h:b[i]?=some a):a<4294967296:=c a (u5 h)
theorem Cp (x:Nat):IntKind.u32.wrap (x:Int)=((x%4294967296:Nat):Int):=by rfl
theorem MK (x:Nat):(x:Int).fdiv (2^(min 32 IntKind.u64.bits))=((x/4294967296:Nat):Int):=by
 show Int.fdiv (x:Int) 4294967296=_;grind
structure ZH (m n:List Nat) where
 i:Nat
 o:List Nat
 c:Nat
 hi:i<=max m.length n.length
 hc:c<=1
 ho:o.length=i
 h:o++sumL (m.drop i) (n.drop i) c=sumL m n 0
theorem Zb (m n:List Nat) (x:Lmb m) (t:Lmb n) (y:m.length<=1073741824) (z:n.length<=1073741824):
  CallC prog 172 [cK m,cK n] ⟨[],cK (sumL m n 0)⟩:=by
 refine ay func172 rfl ntmps172 (aA (k:=bz (k:=bz (k:=ai (bz (k:=?_))))));refine aF (G:=ZH m n) (fun g=>⟨(cK m::cK n::jk::jk::.raw (.slice none 0 0)::.one (.sl 46 0 0 g.o.length)::.raw (.int .u64 (g.c:Int))::rN g.i::j16 (j16 (j4 (j4 (j4 (jk::jk::[])))))),Hm [(46,[⟨165,1,lc fU g.o⟩])]⟩) (fun g=>max m.length n.length-g.i) ⟨0,[],0,by omega,by omega,rfl,rfl⟩ ?_ ?_
 ·refine(dB (k:=5) (d:=46) 165 1 (by omega) rfl rfl).trans (aj ⟨rfl,trivial⟩ ?_);simp[wk]
 rintro⟨i,o,c,B,A,r,h⟩;simp only;have w:max m.length n.length<=1073741824:=by omega
 by_cases v:i<m.length
 ·obtain⟨a,l⟩:=getElem?_of_lt v;have u:=bW x l;refine ai (ar (k:=aC rfl (ak (ai (am (ai (ar (k:=aC rfl (dZ l (k:=ai (bz (k:=?_))))))))))));by_cases q:i<n.length
  ·obtain⟨b,f⟩:=getElem?_of_lt q;have p:=bW t f;refine aZ rfl (fun _=>?_) (fun h=>by simp at h<;>omega);refine dZ f (k:=?_);show bo _ _ _ _;have e:IntKind.u32.wrap ((c:Int)+(a:Int)+(b:Int))=(((c+a+b)%4294967296:Nat):Int):=by rfl
   have j:Int.fdiv ((c:Int)+(a:Int)+(b:Int)) (2^(min 32 IntKind.u64.bits))=(((c+a+b)/4294967296:Nat):Int):=by rw[<- MK];rfl
   refine aK (aH e @jD) (k:=nA j (k:=bL (k:=?_)));refine⟨⟨i+1,o++[(c+a+b)%4294967296],(c+a+b)/4294967296,by omega,by omega,by simp[r],?_⟩,by simp only;omega,aj ⟨rfl,trivial⟩ ?_⟩
   ·rw[<- h,dQ l,dQ f,sumL,aaL];rfl
   simp[wk]
  refine aZ rfl (fun h=>by simp at h<;>omega) (fun _=>ak ?_);show bo _ _ _ _;have e:IntKind.u32.wrap ((c:Int)+(a:Int))=(((c+a)%4294967296:Nat):Int):=by rfl
  have j:Int.fdiv ((c:Int)+(a:Int)) (2^(min 32 IntKind.u64.bits))=(((c+a)/4294967296:Nat):Int):=by rw[<- MK];rfl
  refine aK (aH e @jD) (k:=nA j (k:=bL (k:=?_)));refine⟨⟨i+1,o++[(c+a)%4294967296],(c+a)/4294967296,by omega,by omega,by simp[r],?_⟩,by simp only;omega,aj ⟨rfl,trivial⟩ ?_⟩
  ·rw[<- h,dQ l,d8 (by omega:n.length<=i),d8 (by omega:n.length<=i+1),sumL,aaL];rfl
  simp[wk]
 by_cases q:i<n.length
 ·obtain⟨b,f⟩:=getElem?_of_lt q;have p:=bW t f;refine ai (ar (k:=aC rfl (ak (ai (am (ai (ar (k:=aq rfl (ak (ai (ar (k:=aC rfl (dZ f (k:=?_))))))))))))));show bo _ _ _ _;have e:IntKind.u32.wrap ((c:Int)+(b:Int))=(((c+b)%4294967296:Nat):Int):=by rfl
  have j:Int.fdiv ((c:Int)+(b:Int)) (2^(min 32 IntKind.u64.bits))=(((c+b)/4294967296:Nat):Int):=by rw[<- MK];rfl
  refine aK (aH e @jD) (k:=nA j (k:=bL (k:=?_)));refine⟨⟨i+1,o++[(c+b)%4294967296],(c+b)/4294967296,by omega,by omega,by simp[r],?_⟩,by simp only;omega,aj ⟨rfl,trivial⟩ ?_⟩
  ·rw[<- h,dQ f,d8 (by omega:m.length<=i),d8 (by omega:m.length<=i+1),sumL,aaL];rfl
  simp[wk]
 refine ai (ar (k:=aq rfl (aY ?_)));show bo _ _ _ _;have e:IntKind.u32.wrap (c:Int)=(c:Int):=by rw[Cp];omega
 refine aK (aH e @jD) (k:=?_);have s:sumL m n 0=o++[c]:=by grind [d8,sumL]
 (refine aW ⟨.inr rfl,fF 46 (bG rfl) ?_ rfl⟩;simp(disch:=omega) only[kd,results172,cK])
 grind
def diffL:List Nat->List Nat->Nat->List Nat
 |[],_,_=>[]
 |a::m,[],w=>(a+8589934592-w)%4294967296::diffL m [] (if a<w then 1 else 0)
 |a::m,b::n,w=>(a+8589934592-(w+b))%4294967296::diffL m n (if a<w+b then 1 else 0)
theorem jb: ∀(m n:List Nat) (w:Nat),Lmb m->Lmb n->w<=1->n.length<=m.length->natV n+w<=natV m->natV (diffL m n w)+(natV n+w)=natV m
 |[],[],w,_,_,_,_,h=>by grind [diffL,natV]
 |[],b::n,w,_,_,_,h,_=>by simp at h
 |a::m,[],w,c,e,g,f,h=>by
  rw[dt]at c;simp only[natV]at h;have:=jb m [] (if a<w then 1 else 0) c.2 e (by grind) (by simp) (by grind [natV]);grind [diffL,natV]
 |a::m,b::n,w,c,e,g,f,h=>by
  rw[dt]at c e;simp only[natV]at h;have:=jb m n (if a<w+b then 1 else 0) c.2 e.2 (by grind) (by grind) (by grind);grind [diffL,natV]
theorem ki: ∀(m n:List Nat) (w:Nat),Lmb (diffL m n w)
 |[],n,w=>by simp[diffL,Lmb]
 |a::m,[],w=>by rw[diffL,dt];exact⟨aaQ _ (by omega),ki m [] _⟩
 |a::m,b::n,w=>by rw[diffL,dt];exact⟨aaQ _ (by omega),ki m n _⟩
theorem ke: ∀(m n:List Nat) (w:Nat),(diffL m n w).length=m.length
 |[],n,w=>by simp[diffL]
 |a::m,[],w=>by simp[diffL,ke m []]
 |a::m,b::n,w=>by simp[diffL,ke m n]
structure Yl (m n:List Nat) where
 i:Nat
 o:List Nat
 c:Nat
 hi:i<=m.length
 hc:c<=1
 ho:o.length=i
 h:o++diffL (m.drop i) (n.drop i) c=diffL m n 0
theorem mL (m n:List Nat) (v:Lmb m) (w:Lmb n) (x:m.length<=1073741824) (y:n.length<=1073741824):
  CallC prog 173 [cK m,cK n] ⟨[],cK (diffL m n 0)⟩:=by
 refine ay func173 rfl ntmps173 (aA (k:=bz (k:=bz (k:=ai (bz (k:=?_))))));refine aF (G:=Yl m n) (fun g=>⟨(cK m::cK n::jk::jk::.raw (.slice none 0 0)::.one (.sl 37 0 0 g.o.length)::.raw (.int .u64 (g.c:Int))::rN g.i::j16 (j16 (j4 (jk::jk::[])))),Hm [(37,[⟨165,1,lc fU g.o⟩])]⟩) (fun g=>m.length-g.i) ⟨0,[],0,by omega,by omega,rfl,rfl⟩ ?_ ?_
 ·refine(dB (k:=5) (d:=37) 165 1 (by omega) rfl rfl).trans (aj ⟨rfl,trivial⟩ ?_);simp[wk]
 rintro⟨i,o,c,A,z,l,h⟩;simp only;by_cases t:i<m.length
 ·obtain⟨a,f⟩:=getElem?_of_lt t;have r:=bW v f;refine ai (ar (k:=aC rfl (ak (ai (am (bz (k:=ai (bz (k:=?_)))))))));by_cases u:i<n.length
  ·obtain⟨b,j⟩:=getElem?_of_lt u;have s:=bW w j;refine aZ rfl (fun _=>?_) (fun h=>by simp at h<;>omega);refine dZ j (k:=?_);show bo _ _ _ _;have p:IntKind.u32.wrap (IntKind.u64.wrap ((a:Int)-((c:Int)+(b:Int))))=(((a+8589934592-(c+b))%4294967296:Nat):Int):=by rw[ab9,abb];omega
   refine aK (aH f (aH p @jD)) (k:=bz (k:=aK f (k:=?_)));by_cases e:a<c+b
   ·refine aZ rfl (fun _=>?_) (fun h=>by simp at h<;>omega);refine bL (k:=bL (k:=?_));refine⟨⟨i+1,o++[(a+8589934592-(c+b))%4294967296],1,by omega,by omega,by simp[l],?_⟩,by simp only;omega,aj ⟨rfl,trivial⟩ ?_⟩
    ·rw[<- h,dQ f,dQ j,diffL,aaL,if_pos e];rfl
    simp[wk]
   refine aZ rfl (fun h=>by simp at h<;>omega) (fun _=>ak ?_);show bo _ _ _ _;refine bL (k:=?_);refine⟨⟨i+1,o++[(a+8589934592-(c+b))%4294967296],0,by omega,by omega,by simp[l],?_⟩,by simp only;omega,aj ⟨rfl,trivial⟩ ?_⟩
   ·rw[<- h,dQ f,dQ j,diffL,aaL,if_neg e];rfl
   simp[wk]
  refine aZ rfl (fun h=>by simp at h<;>omega) (fun _=>ak ?_);show bo _ _ _ _;have p:IntKind.u32.wrap (IntKind.u64.wrap ((a:Int)-(c:Int)))=(((a+8589934592-c)%4294967296:Nat):Int):=by rw[ab9,abb];omega
  refine aK (aH f (aH p @jD)) (k:=bz (k:=aK f (k:=?_)));by_cases e:a<c
  ·refine aZ rfl (fun _=>?_) (fun h=>by simp at h<;>omega);refine bL (k:=bL (k:=?_));refine⟨⟨i+1,o++[(a+8589934592-c)%4294967296],1,by omega,by omega,by simp[l],?_⟩,by simp only;omega,aj ⟨rfl,trivial⟩ ?_⟩
   ·rw[<- h,dQ f,d8 (by omega:n.length<=i),d8 (by omega:n.length<=i+1),diffL,aaL,if_pos e];rfl
   simp[wk]
  refine aZ rfl (fun h=>by simp at h<;>omega) (fun _=>ak ?_);show bo _ _ _ _;refine bL (k:=?_);refine⟨⟨i+1,o++[(a+8589934592-c)%4294967296],0,by omega,by omega,by simp[l],?_⟩,by simp only;omega,aj ⟨rfl,trivial⟩ ?_⟩
  ·rw[<- h,dQ f,d8 (by omega:n.length<=i),d8 (by omega:n.length<=i+1),diffL,aaL,if_neg e];rfl
  simp[wk]
 refine ai (ar (k:=aq rfl (aY (bz (k:=?_)))));have q:diffL m n 0=o:=by grind [diffL]
 (refine aW ⟨.inr rfl,fF 37 (bG rfl) ?_ rfl⟩;simp(disch:=omega) only[kd,results173,cK])
 grind
abbrev Bh (z:Int):Prop:=Sz z 536870912
theorem Bh.bg (h:Bh x):Bg x:=h.mono (by omega)
theorem Bh.len (h:Bh x):(au x.natAbs).length<=536870912:=kh h
theorem Sz.neg {k:Nat} (h:Sz x k):Sz (-x) k:=by grind [Sz]
theorem Bh.neg (h:Bh x):Bh (-x):=Sz.neg h
theorem Np {a:Int} (h:decide (a<0)=decide (x<0)):gI (decide (a<0)) (a.natAbs+x.natAbs)=a+x:=by
 grind [gI]
theorem C4 {a:Int} (h:decide (a<0)≠decide (x<0)) (c:x.natAbs<=a.natAbs) {d:Nat} (e:d+(x.natAbs+0)=a.natAbs):gI (decide (a<0)) d=a+x:=by
 grind [gI]
theorem jF {m:List Nat} (f:Lmb b) (c:uW m) (h:natV m<=natV b):m.length<=b.length:=by
 by_cases e:m.length<=b.length
 ·exact e
 have:=jG f c (by omega);omega
theorem tS (a b:Int) (o:Bh a) (p:Bh b):CallC prog 123 [tZ a,tZ b] ⟨[],tZ (a+b)⟩:=by
 have q:=o.len;have r:=p.len;have t1:=jg (au a.natAbs) o.bg.len;have t2:=jg (au b.natAbs) p.bg.len;rw[iQ]at t1 t2;by_cases l:decide (a<0)=decide (b<0)
 ·have f:=Zb (au a.natAbs) (au b.natAbs) (aE _) (aE _) (by omega) (by omega);have e:=jS (decide (a<0)) (sumL (au a.natAbs) (au b.natAbs) 0) (oo _ _ _ (aE _) (aE _) (by omega)) (by rw[r6];omega);rw[me,az,az,aa3,Np l]at e;have c:(decide (a<0)==decide (b<0))=true:=by simp[l]
  refine ay func123 rfl ntmps123 (aA (k:=cQ [⟨2,_,_,_,t1⟩,⟨5,_,_,_,t2⟩] (k:=ai (aK c (k:=aC rfl (cQ [⟨4,_,_,_,f⟩,⟨5,_,_,_,e⟩] (k:=aG @results123)))))))
 have c:(decide (a<0)==decide (b<0))=false:=by grind
 have f:=IN (au a.natAbs) (au b.natAbs) (aE _) (aE _) (b7 _) (b7 _) (by omega) (by omega);rw[az,az]at f;by_cases n:b.natAbs<=a.natAbs
 ·have m:0<=gX a.natAbs b.natAbs:=by grind [gX]
  have e:=mL (au a.natAbs) (au b.natAbs) (aE _) (aE _) (by omega) (by omega);have g:=jS (decide (a<0)) (diffL (au a.natAbs) (au b.natAbs) 0) (ki _ _ _) (by rw[ke];omega);have j:=jb (au a.natAbs) (au b.natAbs) 0 (aE _) (aE _) (by omega) (jF (aE _) (b7 _) (by grind [az])) (by grind [az]);rw[az,az]at j;rw[C4 l n j]at g;refine ay func123 rfl ntmps123 (aA (k:=cQ [⟨2,_,_,_,t1⟩,⟨5,_,_,_,t2⟩] (k:=ai (aK c (k:=aq rfl (ak (ai (bK [⟨2,_,_,_,f⟩] (k:=aC rfl (cQ [⟨4,_,_,_,e⟩,⟨5,_,_,_,g⟩] (k:=aG @results123)))))))))))
 have m:gX a.natAbs b.natAbs<0:=by grind [gX]
 have e:=mL (au b.natAbs) (au a.natAbs) (aE _) (aE _) (by omega) (by omega);have g:=jS (decide (b<0)) (diffL (au b.natAbs) (au a.natAbs) 0) (ki _ _ _) (by rw[ke];omega);have j:=jb (au b.natAbs) (au a.natAbs) 0 (aE _) (aE _) (by omega) (jF (aE _) (b7 _) (by grind [az])) (by grind [az]);rw[az,az]at j;rw[C4 (fun h=>l h.symm) (by omega) j,Int.add_comm]at g;refine ay func123 rfl ntmps123 (aA (k:=cQ [⟨2,_,_,_,t1⟩,⟨5,_,_,_,t2⟩] (k:=ai (aK c (k:=aq rfl (ak (ai (bK [⟨2,_,_,_,f⟩] (k:=aq rfl (ak (cQ [⟨4,_,_,_,e⟩,⟨5,_,_,_,g⟩] (k:=aG @results123))))))))))))
theorem CJ (a b:Int) (g:Bh a) (e:Bh b):CallC prog 77 [tZ a,tZ b] ⟨[],tZ (a-b)⟩:=by
 have f:=Jv b e.bg;have c:=tS a (-b) g e.neg;rw[<- aer]at c;refine ay func77 rfl ntmps77 (aA (k:=cQ [⟨2,_,_,_,f⟩,⟨3,_,_,_,c⟩] (k:=aG @results77)))
theorem ot: ∀(l:List Nat) (k v o:Nat),l[k]?=some o->natV (l.set k v)+o*4294967296^k=natV l+v*4294967296^k
 |[],k,v,o,h=>by simp at h
 |a::l,0,v,o,h=>by grind [natV]
 |a::l,k+1,v,o,h=>by
  simp at h;have:=ot l k v o h;simp only[adx,natV,aby];grind
theorem qY (h:Lmb b) {k:Nat} (e:n<4294967296):Lmb (b.set k n):=fun a c=>by
 rcases abm c with c|rfl
 ·exact h a c
 exact e
theorem md (n:Nat):natV (ae n 0)=0:=by induction n with
 |zero=>rfl
 |succ n b=>simp[acG,natV,b]
theorem bj {i a:Nat} (h:b[i]?=some a):natV (b.take (i+1))=natV (b.take i)+a*4294967296^i:=by
 grind [List.take_succ_eq_append_getElem,jE,natV]
theorem kX (n:Nat):ae n [AV.p (.raw (.int .u32 0))]=lc fU (ae n 0):=by simp[lc,fU]
theorem cU (l:List Nat) (k v:Nat):(lc fU l).set k [AV.p (.raw (.int .u32 (v:Int)))]=lc fU (l.set k v):=by simp_all[lc,fU]
structure Kc (A B:List Nat) where
 i:Nat
 O:List Nat
 hi:i<=A.length
 len:O.length=A.length+B.length
 lmb:Lmb O
 val:natV O=natV (A.take i)*natV B
 zero: ∀k,i+B.length<=k->k<A.length+B.length->O[k]?=some 0
structure MQ (A B:List Nat) (i a:Nat) where
 j:Nat
 O:List Nat
 c:Nat
 hj:j<=B.length
 len:O.length=A.length+B.length
 lmb:Lmb O
 hc:c<4294967296
 val:natV O+c*4294967296^(i+j)=natV (A.take i)*natV B+a*natV (B.take j)*4294967296^i
 zero: ∀k,i+B.length<=k->k<A.length+B.length->O[k]?=some 0
theorem oV {a:Nat} (c:a<4294967296) (e:n<4294967296):a*n<=18446744065119617025:=by
 have:a*n<=4294967295*4294967295:=aaU (by omega) (by omega);omega
theorem zX {B:List Nat} {i a:Nat} (g:MQ b B i a) (r:B[g.j]?=some n) (q:g.O[i+g.j]?=some m) (x:i<b.length) (s:a<4294967296) (h:n<4294967296):
  ∃e:MQ b B i a,e.j=g.j+1/\e.O=g.O.set (i+g.j) ((g.c+(a*n+m))%4294967296)/\e.c=(g.c+(a*n+m))/4294967296:=by
 have f:g.j<B.length:=(aaf.1 r).1;have t:=bW g.lmb q;have v:=oV s h;have w:=g.hc;refine⟨⟨g.j+1,g.O.set (i+g.j) ((g.c+(a*n+m))%4294967296),(g.c+(a*n+m))/4294967296,f,by simp[g.len],qY g.lmb (aaQ _ (by omega)),?_,?_,fun k l p=>?_⟩,rfl,rfl,rfl⟩
 ·omega
 ·have l:=ot g.O (i+g.j) ((g.c+(a*n+m))%4294967296) m q;have p:=bj r;have u:=g.val;grind [Nat.mod_add_div]
 rw[aaI (by omega)];exact g.zero k l p
theorem zW {B:List Nat} {i a:Nat} (m:b[i]?=some a) (g:MQ b B i a) (q: ¬g.j<B.length): ∃f:Kc b B,f.i=i+1/\f.O=g.O.set (i+B.length) g.c:=by
 have n:=(aaf.1 m).1;have o:=g.hj;have e:g.j=B.length:=by omega
 have p:=g.zero (i+B.length) (aaq _) (by omega);refine⟨⟨i+1,g.O.set (i+B.length) g.c,n,by simp[g.len],qY g.lmb g.hc,?_,fun k l h=>?_⟩,rfl,rfl⟩
 ·have l:=ot g.O (i+B.length) g.c 0 p;have h:=g.val;grind [bj]
 rw[aaI (by omega)];exact g.zero k (by omega) h
theorem Jq (a b:Int):gI (!(decide (a<0)==decide (b<0))) (a.natAbs*b.natAbs)=a*b:=by
 grind [gI]
abbrev ve (neg:Bool) (A:List Nat):List OObj:=[⟨65,2,[[.p (.raw (.bool neg)),.p (.sl (ls fU A))]]⟩]
abbrev ud:List OObj:=[⟨65,2,[[.raw (.bool false),.raw (.slice none 0 0)]]⟩]
theorem jp (a b:Int) (N:Bh a) (C:Bh b):CallC prog 78 [tZ a,tZ b] ⟨[],tZ (a*b)⟩:=by
 have W:=N.len;have X:=C.len;have t:=aE a.natAbs;have u:=aE b.natAbs;have Z:=az a.natAbs;have vB:=az b.natAbs;refine ay func78 rfl ntmps78 (aA (k:=?_));generalize au a.natAbs=A at*
 generalize au b.natAbs=B at*
 have I:((A.length:Int)+(B.length:Int)).toNat=A.length+B.length:=by omega
 refine aK (aH I @kX) (k:=ai (ar (k:=?_)));refine aF (G:=Kc A B) (fun g=>⟨(jk::jk::.one (.ptr 2 0 0 0)::.one (.ptr 3 0 0 0)::.one (.ptr 4 0 0 0)::.one (.sl 18 0 0 (A.length+B.length))::j4 (j4 (j4 (jk::jk::cK A::rN A.length::rN g.i::j16 (j16 (j16 (j4 (jk::jk::[])))))))),Hm [(2,ve (decide (a<0)) A),(3,ve (decide (b<0)) B),(4,ud),(18,[⟨165,1,lc fU g.O⟩])]⟩) (fun g=>A.length-g.i) ⟨0,ae (A.length+B.length) 0,by omega,by simp,fun x f=>by simp at f;omega,by simp[md,natV],fun k T M=>by rw[aaY,if_pos M]⟩ ?_ ?_
 ·refine aj ⟨rfl,rfl,rfl,rfl,trivial⟩ ?_;simp[wk]
 rintro⟨i,O,U,len,lmb,val,zero⟩;simp only;by_cases E:i<A.length
 ·obtain⟨x,f⟩:=getElem?_of_lt E;have h:=bW t f;refine ar (k:=bi rfl (ai (am (aK f (k:=bz (k:=ai (ar (k:=?_))))))));refine aF (G:=MQ A B i x) (fun g=>⟨(jk::jk::.one (.ptr 2 0 0 0)::.one (.ptr 3 0 0 0)::.one (.ptr 4 0 0 0)::.one (.sl 18 0 0 (A.length+B.length))::rN i::.raw (.int .u32 (x:Int))::.raw (.int .u64 (g.c:Int))::j4 (j4 (jk::jk::jk::cK A::rN A.length::rN i::j4 (jk::cK B::rN B.length::rN g.j::j16 (j16 (j4 (j4 (j4 (jk::jk::[]))))))))),Hm [(2,ve (decide (a<0)) A),(3,ve (decide (b<0)) B),(4,ud),(18,[⟨165,1,lc fU g.O⟩])]⟩) (fun g=>B.length-g.j) ⟨0,O,0,by omega,len,lmb,by omega,by simpa[natV] using val,zero⟩ ?_ ?_
  ·refine aj ⟨rfl,rfl,rfl,rfl,trivial⟩ ?_;simp[wk]
  intro g;by_cases F:g.j<B.length
  ·obtain⟨y,v⟩:=getElem?_of_lt F;have l:=bW u v;have D:=g.len;obtain⟨o,n⟩:=getElem?_of_lt (show i+g.j<g.O.length by omega);have R:=bW g.lmb n;have C:=oV h l;have s:=g.hc;obtain⟨r,H,w,Y⟩:=zX g v n E h l;have m:((i:Int)+(g.j:Int)).toNat=i+g.j:=by omega
   have J:(x:Int)*(y:Int)=((x*y:Nat):Int):=by simp
   generalize V:x*y=p at*
   have q:IntKind.u32.wrap ((g.c:Int)+((p:Int)+(o:Int)))=(((g.c+(p+o))%4294967296:Nat):Int):=by rfl
   have K:Int.fdiv ((g.c:Int)+((p:Int)+(o:Int))) (2^(min 32 IntKind.u64.bits))=(((g.c+(p+o))/4294967296:Nat):Int):=by grind [MK]
   refine ar (k:=bi rfl (ai (am (aK v (k:=aK (aH J (aH m n)) (k:=aK (aH q (aH m (aH n @cU))) (k:=nA K (k:=bL (k:=?_)))))))));refine⟨r,by omega,aj ⟨rfl,rfl,rfl,by rw[w];rfl,trivial⟩ ?_⟩;simp_all[wk]
  have P:=g.hj;have s:=g.hc;have Q:=g.len;obtain⟨r,H,w⟩:=zW f g F;have m:((i:Int)+(B.length:Int)).toNat=i+B.length:=by omega
  have q:IntKind.u32.wrap (g.c:Int)=(g.c:Int):=by rw[Cp];omega
  refine ar (k:=bv rfl ?_);show bo _ _ _ _;have S:=g.zero (i+B.length) (aaq _) (by omega);refine dZ (aH q (aH m (aH S @cU))) (k:=bL (k:=?_));refine⟨r,by omega,aj ⟨rfl,rfl,rfl,by rw[w];rfl,trivial⟩ ?_⟩;simp[wk,H]
 have e:natV O=a.natAbs*b.natAbs:=by
  grind
 have z:=jS (!(decide (a<0)==decide (b<0))) O lmb (by omega);rw[e,Jq]at z;refine ar (k:=bv rfl ?_);show bo _ _ _ _;refine bo.weak (bH 18 (bG rfl)) ?_;have L:List.take (A.length+B.length) O=O:=aar (by omega);simp(disch:=omega) only[kd,tZ,ab,L];refine bK [⟨6,_,_,_,z⟩] (k:=aG @results78)
def dblL:List Nat->Nat->List Nat
 |[],b=>[b]
 |x::l,b=>(2*x+b)%4294967296::dblL l (x/2147483648)
theorem Ab: ∀(l:List Nat) (b:Nat),Lmb l->b<=1->natV (dblL l b)=2*natV l+b
 |[],b,_,_=>by simp[dblL,natV]
 |x::l,b,c,e=>by
  rw[dt]at c;have f:=c.1;simp only[dblL,natV,Ab l (x/2147483648) c.2 (by omega)];omega
theorem DQ: ∀(l:List Nat) (b:Nat),Lmb l->b<=1->Lmb (dblL l b)
 |[],b,_,e=>by grind [dblL,Lmb]
 |x::l,b,c,e=>by
  rw[dt]at c;have f:=c.1;rw[dblL,dt];exact⟨aaQ _ (by omega),DQ l _ c.2 (by omega)⟩
theorem Dh: ∀(l:List Nat) (b:Nat),(dblL l b).length=l.length+1
 |[],b=>rfl
 |x::l,b=>by simp[dblL,Dh l]
theorem qa (a b n:Nat) (h:b<2^n):(a*2^n)|||b=a*2^n+b:=by
 have:=Nat.shiftLeft_add_eq_or_of_lt h a;grind [Nat.shiftLeft_eq]
theorem vq (a b n:Nat) (h:b<2^n):b|||(a*2^n)=a*2^n+b:=by rw[Nat.or_comm,qa a b n h]
theorem W3 (a b:Nat) (c:a<4294967296) (f:b<4294967296):IntKind.u32.wrap (((BitVec.ofInt IntKind.u32.bits (a:Int)|||BitVec.ofInt IntKind.u32.bits (b:Int)).toNat:Nat):Int)=((a|||b:Nat):Int):=by
 rw[Cp];show(((BitVec.ofInt 32 (a:Int)|||BitVec.ofInt 32 (b:Int)).toNat%4294967296:Nat):Int)=_;rw[BitVec.toNat_or];have e: ∀x:Nat,x<4294967296->(BitVec.ofInt 32 (x:Int)).toNat=x:=fun x g=>by grind
 grind
theorem BL (a b:Nat) (c:a<18446744073709551616) (f:b<18446744073709551616):IntKind.u64.wrap (((BitVec.ofInt IntKind.u64.bits (a:Int)|||BitVec.ofInt IntKind.u64.bits (b:Int)).toNat:Nat):Int)=((a|||b:Nat):Int):=by
 rw[abb];show((BitVec.ofInt 64 (a:Int)|||BitVec.ofInt 64 (b:Int)).toNat:Int)%_=_;rw[BitVec.toNat_or];have e: ∀x:Nat,x<18446744073709551616->(BitVec.ofInt 64 (x:Int)).toNat=x:=fun x g=>by grind
 grind
theorem YA (a b:Nat) (c:a<4294967296) (e:b<4294967296):IntKind.u32.wrap (((BitVec.ofInt IntKind.u32.bits (a:Int)&&&BitVec.ofInt IntKind.u32.bits (b:Int)).toNat:Nat):Int)=((a&&&b:Nat):Int):=by
 rw[Cp];show(((BitVec.ofInt 32 (a:Int)&&&BitVec.ofInt 32 (b:Int)).toNat%4294967296:Nat):Int)=_;grind [Nat.and_le_left]
structure ZC (l:List Nat) (b:Nat) where
 i:Nat
 o:List Nat
 c:Nat
 hi:i<=l.length
 hc:c<=1
 ho:o.length=i
 h:o++dblL (l.drop i) c=dblL l b
theorem N0 (l:List Nat) (b:Nat) (u:Lmb l) (r:b<=1) (v:l.length<=1073741824):CallC prog 221 [cK l,.raw (.int .u32 (b:Int))] ⟨[],cK (dblL l b)⟩:=by
 refine ay func221 rfl ntmps221 (aA (k:=bz (k:=ai (bz (k:=?_)))));refine aF (G:=ZC l b) (fun g=>⟨(cK l::.raw (.int .u32 (g.c:Int))::jk::jk::.raw (.slice none 0 0)::.one (.sl 20 0 0 g.o.length)::jk::jk::cK l::rN l.length::rN g.i::j16 (jk::[])),Hm [(20,[⟨165,1,lc fU g.o⟩])]⟩) (fun g=>l.length-g.i) ⟨0,[],b,by omega,r,rfl,rfl⟩ ?_ ?_
 ·refine(dB (k:=5) (d:=20) 165 1 (by omega) rfl rfl).trans (aj ⟨rfl,trivial⟩ ?_);simp[wk]
 rintro⟨i,o,c,x,w,t,h⟩;simp only;by_cases s:i<l.length
 ·obtain⟨a,e⟩:=getElem?_of_lt s;have q:=bW u e;have m:IntKind.u32.wrap ((a:Int)*2^min 1 IntKind.u32.bits)=((2*a%4294967296:Nat):Int):=by
   rw[<- Cp];congr 1;show(a:Int)*2=_;omega
  have f:=W3 (2*a%4294967296) c (by omega) (by omega);have n:(2*a%4294967296)|||c=(2*a+c)%4294967296:=by
   have:=qa (a%2147483648) c 1 (by omega);grind
  rw[n]at f;have p:Int.fdiv (a:Int) (2^(min 31 IntKind.u32.bits))=((a/2147483648:Nat):Int):=by
   show Int.fdiv (a:Int) 2147483648=_;grind
  refine ar (k:=bi rfl (ai (am (aK e (k:=aK (aH m (aH f @jD)) (k:=nA p (k:=bL (k:=?_))))))));refine⟨⟨i+1,o++[(2*a+c)%4294967296],a/2147483648,by omega,by omega,by simp[t],?_⟩,by simp only;omega,aj ⟨rfl,trivial⟩ ?_⟩
  ·rw[<- h,dQ e,dblL,aaL];rfl
  simp[wk]
 refine ar (k:=bv rfl (aK @jD (k:=?_)));have j:dblL l b=o++[c]:=by grind [dblL]
 (refine aW ⟨.inr rfl,fF 20 (bG rfl) ?_ rfl⟩;simp(disch:=omega) only[kd,results221,cK])
 grind
structure Yq (l:List Nat) where
 i:Nat
 u:Nat
 hi:i<=l.length/\i<=2
 hu:u=natV (l.take i)
theorem fd (h:Lmb b) (k:Nat):natV (b.take k)<4294967296^k:=by
 grind [Lmb,fH,Nat.lt_of_lt_of_le,Nat.pow_le_pow_right,List.length_take]
theorem OW (l:List Nat) (o:Lmb l) (s:l.length<=1073741824):CallC prog 73 [cK l] ⟨[],.raw (.int .u64 (natV (l.take 2):Nat))⟩:=by
 refine ay func73 rfl ntmps73 (aA (k:=bz (k:=ai (bz (k:=?_)))));refine aF (G:=Yq l) (fun g=>⟨(cK l::jk::.raw (.int .u64 0)::.raw (.int .u64 (g.u:Int))::rN g.i::j16 (j4 (jk::[]))),Hm []⟩) (fun g=>l.length-g.i) ⟨0,0,⟨by omega,by omega⟩,rfl⟩ ?_ ?_
 ·refine aj trivial ?_;simp[wk]
 rintro⟨i,u,v,n⟩;simp only;have b:=fd o i;rw[<- n]at b;by_cases m:i<l.length/\i<2
 ·obtain⟨a,f⟩:=getElem?_of_lt m.1;have p:=bW o f;have r:=m.2;have q:=m.1;have hu2:=bj f;rw[<- n]at hu2;refine ai (ar (k:=aC rfl (ak (ai (am ?_)))));have j:i=0\/i=1:=by omega
  rcases j with rfl|rfl
  ·have h:IntKind.u64.wrap ((a:Int)*2^min (32*((0:Nat):Int)).toNat IntKind.u64.bits)=(a:Int):=by
    grind [IntKind.wrap_u64]
   have hu0:u=0:=by omega
   have c:=BL u a (by omega) (by omega);rw[hu0,Nat.zero_or,<- hu0]at c;refine dZ (aH f (aH h c)) (k:=bL (k:=?_));refine⟨⟨1,a,⟨by omega,by omega⟩,by grind⟩,by grind,aj trivial ?_⟩;simp[wk]
  have h:IntKind.u64.wrap ((a:Int)*2^min (32*((1:Nat):Int)).toNat IntKind.u64.bits)=((a*4294967296:Nat):Int):=by
   rw[abb];show((a:Int)*4294967296)%_=_;omega
  simp only[Nat.pow_one]at b;have c:=BL u (a*4294967296) (by omega) (by omega);rw[show a*4294967296=a*2^32 from rfl,vq _ _ _ b,show a*2^32=a*4294967296 from rfl]at c;refine dZ (aH f (aH h c)) (k:=bL (k:=?_));refine⟨⟨2,a*4294967296+u,⟨by omega,by omega⟩,by grind⟩,by grind,aj trivial ?_⟩;simp[wk]
 have e:u=natV (l.take 2):=by
  grind
 rw[<- e];by_cases t:i<l.length
 ·refine ai (ar (k:=aq rfl (aY (bz (k:=aG @results73)))))
 refine ai (ar (k:=aq rfl (aY (bz (k:=aG @results73)))))
def jO (z:Int):TV:=if -9223372036854775808<=z/\z<=9223372036854775807 then .tup [(false,[.p (.raw (.int .i64 z))]),(false,[.p (.raw (.bool true))])]else .tup [(false,[.p (.raw (.int .i64 0))]),(false,[.p (.raw (.bool false))])]
theorem xv (h:2<(au n).length):18446744073709551616<=n:=by
 grind [au]
theorem im {n:Nat} (h:(au n).length<=2):n<18446744073709551616:=by
 grind [au]
theorem uX (z:Int) (h:Bg z):CallC prog 33 [tZ z] ⟨[],jO z⟩:=by
 have b:=jg (au z.natAbs) h.len;rw[iQ]at b;have c:=OW (au z.natAbs) (aE _) h.len;have l:=h.len;by_cases g:2<(au z.natAbs).length
 ·have j:=xv g;rw[show jO z= .tup [(false,[.p (.raw (.int .i64 0))]),(false,[.p (.raw (.bool false))])] by grind [jO]];refine ay func33 rfl ntmps33 (aA (k:=bM [⟨2,_,_,_,b⟩] (k:=bM [⟨1,_,_,_,c⟩] (k:=ai (am (ar (k:=aC rfl (bz (k:=aG @results33)))))))))
 have j:=im (n:=z.natAbs) (by omega);rw[aar (by omega),az]at c;by_cases m:z<0
 ·have e:IntKind.i64.wrap (IntKind.u64.wrap (0-(z.natAbs:Int)))=z\/9223372036854775808<z.natAbs:=by
   grind [IntKind.wrap_u64,IntKind.wrap_i64]
  by_cases f:z.natAbs<=9223372036854775808
  ·replace e:=e.resolve_right (by omega)
   rw[show jO z= .tup [(false,[.p (.raw (.int .i64 z))]),(false,[.p (.raw (.bool true))])] by grind [jO]];refine ay func33 rfl ntmps33 (aA (k:=bM [⟨2,_,_,_,b⟩] (k:=bM [⟨1,_,_,_,c⟩] (k:=ai (am (ar (k:=aq rfl (ar (k:=aC rfl (fL e (k:=aG @results33)))))))))))
  rw[show jO z= .tup [(false,[.p (.raw (.int .i64 0))]),(false,[.p (.raw (.bool false))])] by grind [jO]];refine ay func33 rfl ntmps33 (aA (k:=bM [⟨2,_,_,_,b⟩] (k:=bM [⟨1,_,_,_,c⟩] (k:=ai (am (ar (k:=aq rfl (ar (k:=aq rfl (ar (k:=aq rfl (ak (bz (k:=aG @results33))))))))))))))
 by_cases f:z.natAbs<9223372036854775808
 ·have e:IntKind.i64.wrap (z.natAbs:Int)=z:=by rw[adO];omega
  rw[show jO z= .tup [(false,[.p (.raw (.int .i64 z))]),(false,[.p (.raw (.bool true))])] by grind [jO]];refine ay func33 rfl ntmps33 (aA (k:=bM [⟨2,_,_,_,b⟩] (k:=bM [⟨1,_,_,_,c⟩] (k:=ai (am (ar (k:=aq rfl (ar (k:=aq rfl (ar (k:=aC rfl (fL e (k:=aG @results33)))))))))))))
 rw[show jO z= .tup [(false,[.p (.raw (.int .i64 0))]),(false,[.p (.raw (.bool false))])] by grind [jO]];refine ay func33 rfl ntmps33 (aA (k:=bM [⟨2,_,_,_,b⟩] (k:=bM [⟨1,_,_,_,c⟩] (k:=ai (am (ar (k:=aq rfl (ar (k:=aq rfl (ar (k:=aq rfl (ak (bz (k:=aG @results33))))))))))))))
theorem mU: ∀{l:List Nat} {i x:Nat},Lmb l->l[i]?=some x->natV l/4294967296^i%4294967296=x
 |[],i,x,_,h=>by simp at h
 |a::l,0,x,b,h=>by
  grind [dt,natV]
 |a::l,i+1,x,b,h=>by
  rw[dt]at b;have c:=b.1;simp at h;have:=mU b.2 h;rw[aby,abj,<- abF];grind [natV]
theorem Al (i:Nat):4294967296^i=2^(32*i):=by rw[Nat.pow_mul]
theorem KD {a k:Nat} (h:(au a)[k/32]?=some n):n/2^(k%32)%2=a/2^k%2:=by
 have b:=mU (aE a) h;rw[az,Al]at b;rw[<- Nat.toNat_testBit,<- Nat.toNat_testBit,<- b,show(4294967296:Nat)=2^32 from rfl,Nat.testBit_mod_two_pow,Nat.testBit_div_two_pow];grind
structure Vw (a b n:Nat) where
 t:Nat
 O:List Nat
 ht:t<=32*n
 len:O.length=n
 lmb:Lmb O
 val:natV O=a/2^t/b*2^t
theorem YP (a k:Nat):a/2^k=2*(a/2^(k+1))+a/2^k%2:=by
 rw[aby,<- abF];omega
theorem NY {a k:Nat} (j:0<n) (h:2*(a/2^(k+1)%n)+a/2^k%2<n):a/2^k/n=2*(a/2^(k+1)/n)/\a/2^k%n=2*(a/2^(k+1)%n)+a/2^k%2:=by
 have c:=YP a k;have f:=ab5 (a/2^(k+1)) n;generalize a/2^(k+1)=X at*
 generalize a/2^k%2=e at*
 generalize X%n=r at*
 generalize X/n=q at*
 have g:a/2^k=n*(2*q)+(2*r+e):=by grind
 grind [Nat.mul_add_div,Nat.div_eq_of_lt,Nat.mul_add_mod,Nat.mod_eq_of_lt]
theorem NX {a k:Nat} (f:0<n) (h:n<=2*(a/2^(k+1)%n)+a/2^k%2):a/2^k/n=2*(a/2^(k+1)/n)+1/\a/2^k%n=2*(a/2^(k+1)%n)+a/2^k%2-n:=by
 have j:=YP a k;have l:=ab5 (a/2^(k+1)) n;have o:a/2^(k+1)%n<n:=aaQ _ f;have m:a/2^k%2<2:=aaQ _ (by omega);generalize a/2^(k+1)=X at*
 generalize a/2^k%2=e at*
 generalize X%n=r at*
 generalize X/n=q at*
 have g:a/2^k=n*(2*q+1)+(2*r+e-n):=by grind
 have c:2*r+e-n<n:=by omega
 rw[g];exact⟨by rw[adk f,acK c,aa3],by rw[adl,abP c]⟩
theorem SE {a k:Nat} (c:0<n) (e:k+1<=32*m) (len:b.length=m) (lmb:Lmb b) (val:natV b=a/2^(k+1)/n*2^(k+1)) (h:2*(a/2^(k+1)%n)+a/2^k%2<n): ∃g:Vw a n m,g.t=k/\g.O=b:=
 ⟨⟨k,b,by omega,len,lmb,by grind [NY]⟩,rfl,rfl⟩
theorem SD {a k x:Nat} (p:0<n) (u:k+1<=32*m) (len:b.length=m) (lmb:Lmb b) (val:natV b=a/2^(k+1)/n*2^(k+1)) (h:n<=2*(a/2^(k+1)%n)+a/2^k%2) (e:b[k/32]?=some x): ∃g:Vw a n m,g.t=k/\g.O=b.set (k/32) (x|||2^(k%32)):=by
 have f:=bW lmb e;have r:k%32<32:=aaQ _ (by omega);have c:x|||2^(k%32)<4294967296:=Nat.or_lt_two_pow (n:=32) f (aci (by omega) r);refine⟨⟨k,b.set (k/32) (x|||2^(k%32)),by omega,by simp[len],qY lmb c,?_⟩,rfl,rfl⟩;have j:=mU lmb e;have o:=ot b (k/32) (x|||2^(k%32)) x e;have l:2^(k+1)=2^(32*(k/32))*2^(k%32+1):=by rw[<- abM];grind
 rw[Al]at j o;rw[(NX p h).1];generalize a/2^(k+1)/n=q at*
 have s:x=q%2^(31-k%32)*2^(k%32+1):=by
  rw[<- j,val,l,abj (2^(32*(k/32))),<- ace,adz _ (abk (by omega))];rw[show(4294967296:Nat)=2^(31-k%32)*2^(k%32+1) by rw[<- abM,show 31-k%32+(k%32+1)=32 by omega],ad8]
 grind [qa]
theorem zG {a:Nat} (h:(au a).length=n):a/2^(32*n)=0:=by
 grind [fH,aE,az,Al,Nat.div_eq_of_lt]
theorem IM {a:Nat} (h:n<=a):0<=gX a n:=by grind [gX]
theorem NO {a b:Nat} (h:a<b):gX a b<0:=by grind [oN]
abbrev Dj (a b:Nat):TV:= .tup [(false,[.p (.sl (ls fU (au (a/b))))]),(false,[.p (.sl (ls fU (au (a%b))))])]
theorem pV {a:Nat} (h:a<=n):(au a).length<=(au n).length:=jF (aE _) (b7 _) (by grind [az])
theorem NZ (a b:Nat) (s:0<b) (la:(au a).length<=536870912) (lb:(au b).length<=536870912):CallC prog 186 [cK (au a),cK (au b)] ⟨[],Dj a b⟩:=by
 by_cases hs:(au a).length<=2/\(au b).length<=2
 ·obtain⟨U,V⟩:=hs;have ua:=im U;have ub:=im V;have p:=OW (au a) (aE _) (by omega);have e:=OW (au b) (aE _) (by omega);rw[aar U,az]at p;rw[aar V,az]at e;have C:a/b<=a:=acx _ _;have D:a%b<b:=aaQ _ s;have c:=Cs false (a/b) (by omega);have u:=Cs false (a%b) (by omega);rw[show gI false (a/b)=((a/b:Nat):Int)from rfl]at c;rw[show gI false (a%b)=((a%b:Nat):Int)from rfl]at u;have F:(b:Int)≠0:=by omega
  have z:IntKind.u64.wrap (Int.tdiv (a:Int) (b:Int))=((a/b:Nat):Int):=by
   grind [IntKind.wrap_u64]
  have A:Int.tmod (a:Int) (b:Int)=((a%b:Nat):Int):=by
   rfl
  unfold Dj;generalize a/b=q at*
  generalize a%b=r at*
  refine ay func186 rfl ntmps186 (aA (k:=ai (ar (k:=aC rfl (bM [⟨1,_,_,_,p⟩,⟨3,_,_,_,e⟩] (k:=gh [⟨3,_,_,_,c⟩,⟨8,_,_,_,u⟩] (aH @aeq (aH (@ne_eq.{1}) (aH F (aH @not_false_eq_true (aH z A))))) (k:=aG @results186)))))))
 refine ay func186 rfl ntmps186 (aA (k:=?_));by_cases c:(au a).length<=2
 all_goals
  (first|refine ax fun _ K=>?_|refine ai (ax fun _ K=>?_)|refine ai (ai (ax fun _ K=>?_)));simp(disch:=omega) only[kd,aa];apply K
  first|refine aq rfl (ak ?_)|refine aZ rfl (fun h=>by simp at h<;>omega) (fun _=>ak ?_)
  show bo _ _ _ _
  (first|refine ax fun _ K=>?_|refine ai (ax fun _ K=>?_)|refine ai (ai (ax fun _ K=>?_)));simp(disch:=omega) only[kd,aa,kX];apply K
  (first|refine ax fun _ K=>?_|refine ai (ax fun _ K=>?_)|refine ai (ai (ax fun _ K=>?_)));simp(disch:=omega) only[kd,aa,aR];apply K
  refine aF (G:=Vw a b (au a).length) (fun g=>⟨(cK (au a)::cK (au b)::jk::jk::.one (.sl 33 0 0 (au a).length)::cK (au (a/2^g.t%b))::jk::jk::.raw (.int .i64 ((g.t:Int)-1))::j16 (j16 (j16 (j16 (jk::jk::[]))))),Hm [(33,[⟨165,1,lc fU g.O⟩])]⟩) (fun g=>g.t) ⟨32*(au a).length,ae (au a).length 0,by omega,by simp,fun x v=>by simp at v;omega,by rw[md,zG rfl];simp⟩ ?_ ?_
  ·refine(dB (k:=5) (d:=900) 165 1 (by omega) rfl rfl).trans ((bH 900 (bG (f:=fU) (l:=[]) rfl)).trans (aj ⟨rfl,trivial⟩ ?_));simp[wk,fc,dN,zG rfl,ce];rfl
  rintro⟨t,O,T,len,lmb,val⟩;simp only;cases t with
  |zero=>
   have o:=jg O (by omega);rw[dA lmb,val]at o;simp only[aeC,Nat.div_one,ac7]at o;simp only[aeC,Nat.div_one]
   (first|refine ax fun _ K=>?_|refine ai (ax fun _ K=>?_)|refine ai (ai (ax fun _ K=>?_)));simp(disch:=omega) only[kd,cK];apply K
   first|refine aq rfl (aY ?_)|refine aZ rfl (fun h=>by simp at h<;>omega) (fun _=>aY ?_)
   show bo _ _ _ _;refine bo.weak (bH 33 (bG rfl)) ?_;have Y:List.take (au a).length O=O:=aar (by omega);simp(disch:=omega) only[kd,Y]
   (first|refine bC [⟨1,_,_,_,o⟩] [] fun _ K=>?_|refine ai (bC [⟨1,_,_,_,o⟩] [] fun _ K=>?_)|refine ai (ai (bC [⟨1,_,_,_,o⟩] [] fun _ K=>?_)));simp only[kd,cK,aa];apply K
   (refine aW ⟨.inr rfl,cd rfl ?_ rfl⟩;simp(disch:=omega) only[kd,results186])
  |succ k=>
   have Z:((k+1:Nat):Int)-1=(k:Int):=by omega
   simp only[Z];have H:k/32<(au a).length:=by omega
   obtain⟨x,v⟩:=getElem?_of_lt H;have ac:=bW (aE a) v;obtain⟨y,L⟩:=getElem?_of_lt (show k/32<O.length by omega);have M:=bW lmb L;have w:=KD v;have C:IntKind.i64.wrap (Int.tdiv (k:Int) 32)=((k/32:Nat):Int):=by
    grind [IntKind.wrap_i64]
   have D:Int.tmod (k:Int) 32=((k%32:Nat):Int):=by rfl
   have S:min (k%32) IntKind.u32.bits=k%32:=by show min (k%32) 32=_;omega
   have z:Int.fdiv (x:Int) (2^min (k%32) IntKind.u32.bits)=((x/2^(k%32):Nat):Int):=by
    grind
   have ad:x/2^(k%32)<=x:=acx _ _;have A:IntKind.u32.wrap (((BitVec.ofInt IntKind.u32.bits ((x/2^(k%32):Nat):Int)&&&BitVec.ofInt IntKind.u32.bits (1:Int)).toNat:Nat):Int)=((a/2^k%2:Nat):Int):=by
    rw[<- w,<- Nat.and_one_is_mod];exact YA (x/2^(k%32)) 1 (by omega) (by omega)
   have ab:a/2^k%2<2:=aaQ _ (by omega);have J:a/2^(k+1)%b<b:=aaQ _ s;have lr:=pV (acN J);have p:=N0 (au (a/2^(k+1)%b)) (a/2^k%2) (aE _) (by omega) (by omega);have e:=jg (dblL (au (a/2^(k+1)%b)) (a/2^k%2)) (by rw[Dh];omega);rw[dA (DQ _ _ (aE _) (by omega)),Ab _ _ (aE _) (by omega),az]at e;by_cases j:b<=2*(a/2^(k+1)%b)+a/2^k%2
   ·obtain⟨E,P,Q⟩:=SD s T len lmb val j L;have m:=(NX s j).2;have N:=kh (n:=2*(a/2^(k+1)%b)+a/2^k%2) (k:=(au b).length+1) (by
     grind [fH,aE,az])
    generalize 2*(a/2^(k+1)%b)+a/2^k%2=R at*
    have c:=IN (au R) (au b) (aE _) (aE _) (b7 _) (b7 _) (by omega) (by omega);rw[az,az]at c;have hc:=IM j;have u:=mL (au R) (au b) (aE _) (aE _) (by omega) (by omega);have B:=jg (diffL (au R) (au b) 0) (by rw[ke];omega);have hd:=jb (au R) (au b) 0 (aE _) (aE _) (by omega) (pV j) (by grind [az]);rw[az,az]at hd;rw[dA (ki _ _ _),show natV (diffL (au R) (au b) 0)=a/2^k%b by omega]at B;have I:2^(k%32)<4294967296:=aci (a:=2) (n:=32) (by omega) (aaQ _ (by omega));have W:IntKind.u32.wrap (1*2^min (k%32) IntKind.u32.bits)=((2^(k%32):Nat):Int):=by
     grind [Cp]
    have X:=W3 y (2^(k%32)) M I
    (first|refine ax fun _ K=>?_|refine ai (ax fun _ K=>?_)|refine ai (ai (ax fun _ K=>?_)));simp(disch:=omega) only[kd,cK];apply K
    first|refine aC rfl (ak ?_)|refine aZ rfl (fun _=>ak ?_) (fun h=>by simp at h<;>omega)
    refine ai (am ?_)
    (first|refine bC [⟨10,_,_,_,p⟩,⟨11,_,_,_,e⟩] [] fun _ K=>?_|refine ai (bC [⟨10,_,_,_,p⟩,⟨11,_,_,_,e⟩] [] fun _ K=>?_)|refine ai (ai (bC [⟨10,_,_,_,p⟩,⟨11,_,_,_,e⟩] [] fun _ K=>?_)));simp(disch:=omega) only[kd,cK,aa,C,v,D,z,A,af];apply K
    (first|refine bC [⟨2,_,_,_,c⟩] [] fun _ K=>?_|refine ai (bC [⟨2,_,_,_,c⟩] [] fun _ K=>?_)|refine ai (ai (bC [⟨2,_,_,_,c⟩] [] fun _ K=>?_)));simp(disch:=omega) only[kd,cK,aa];apply K
    first|refine aC rfl ?_|refine aZ rfl (fun _=>?_) (fun h=>by simp at h<;>omega)
    (first|refine bC [⟨2,_,_,_,u⟩,⟨3,_,_,_,B⟩] [] fun _ K=>?_|refine ai (bC [⟨2,_,_,_,u⟩,⟨3,_,_,_,B⟩] [] fun _ K=>?_)|refine ai (ai (bC [⟨2,_,_,_,u⟩,⟨3,_,_,_,B⟩] [] fun _ K=>?_)));simp only[kd,cK,aa,af];apply K
    refine sX (aH C (aH L (aH D (aH W (aH X @cU))))) (k:=bL (k:=?_));refine⟨E,by omega,aj ⟨by rw[Q];rfl,trivial⟩ ?_⟩;simp[wk,P]
   obtain⟨E,P,Q⟩:=SE s T len lmb val (by omega);have m:=(NY (a:=a) (k:=k) s (by omega)).2;rw[<- m]at e j;have N:=pV (acN (aaQ (a/2^k) s));have c:=IN (au (a/2^k%b)) (au b) (aE _) (aE _) (b7 _) (b7 _) (by omega) (by omega);rw[az,az]at c;have hc:=NO (a:=a/2^k%b) (b:=b) (by omega)
   (first|refine ax fun _ K=>?_|refine ai (ax fun _ K=>?_)|refine ai (ai (ax fun _ K=>?_)));simp(disch:=omega) only[kd,cK];apply K
   first|refine aC rfl (ak ?_)|refine aZ rfl (fun _=>ak ?_) (fun h=>by simp at h<;>omega)
   refine ai (am ?_)
   (first|refine bC [⟨10,_,_,_,p⟩,⟨11,_,_,_,e⟩] [] fun _ K=>?_|refine ai (bC [⟨10,_,_,_,p⟩,⟨11,_,_,_,e⟩] [] fun _ K=>?_)|refine ai (ai (bC [⟨10,_,_,_,p⟩,⟨11,_,_,_,e⟩] [] fun _ K=>?_)));simp(disch:=omega) only[kd,cK,aa,C,v,D,z,A,af];apply K
   (first|refine bC [⟨2,_,_,_,c⟩] [] fun _ K=>?_|refine ai (bC [⟨2,_,_,_,c⟩] [] fun _ K=>?_)|refine ai (ai (bC [⟨2,_,_,_,c⟩] [] fun _ K=>?_)));simp(disch:=omega) only[kd,cK,aa];apply K
   first|refine aq rfl (ak ?_)|refine aZ rfl (fun h=>by simp at h<;>omega) (fun _=>ak ?_)
   show bo _ _ _ _;refine bL (k:=?_);refine⟨E,by omega,aj ⟨by rw[Q];rfl,trivial⟩ ?_⟩;simp[wk,P]
theorem QB {P:Program} {q t n:Nat} (h:ir P t=some n) (b:n≠1): ∀x∈[(m,q,t)],ir P x.2.2≠some 1:=fun x c=>by
 grind
theorem G9 {s:AS} {t a r i j b g e f:Nat} (v:s.tmps[n]?=some (.one (.ptr a r i j))) (w:s.tmps[m]?=some (.one (.ptr b g e f))) (c:b≠a):CG [(n,m,t)] s:=fun x y h D z B l E A C o u=>by
 grind
def tq (a b:Int):Int:=gI (!(decide (a<0)==decide (b<0))) (a.natAbs/b.natAbs)
def tr (a b:Int):Int:=gI (decide (a<0)) (a.natAbs%b.natAbs)
theorem QF (a b:Int):tr a b+b*tq a b=a:=by
 have h:=ab5 a.natAbs b.natAbs;have c:(b.natAbs:Int)*((a.natAbs/b.natAbs:Nat):Int)+((a.natAbs%b.natAbs:Nat):Int)=(a.natAbs:Int):=by
  omega
 unfold tq tr gI;grind
theorem QG (a b:Int):(tr a b).natAbs=a.natAbs%b.natAbs:=rQ _ _
theorem QE (a b:Int):(tq a b).natAbs=a.natAbs/b.natAbs:=rQ _ _
theorem J4 {a b:Int} (c:b≠0):(tr a b).natAbs<b.natAbs:=by simp_all[QG,aaQ]
theorem F8 {a b:Int} (c:b≠0) (h:0<=tr a b):a/b=tq a b/\a%b=tr a b:=by
 have e:=QF a b;have f:=J4 (a:=a) c;grind [Int.ediv_emod_unique',Int.ediv_emod_unique]
theorem IZ {a b:Int} (c:b<0) (h:tr a b<0):a/b=tq a b+1/\a%b=tr a b+b.natAbs:=by
 have e:=QF a b;have f:=J4 (a:=a) (b:=b) (by omega);refine(Int.ediv_emod_unique' c).2 ⟨?_,by omega,by omega⟩;grind
theorem I0 {a b:Int} (c:0<b) (h:tr a b<0):a/b=tq a b-1/\a%b=tr a b+b.natAbs:=by
 have e:=QF a b;have f:=J4 (a:=a) (b:=b) (by omega);refine(adg c).2 ⟨?_,by omega,by omega⟩;grind
theorem Sz.le {y:Int} {k:Nat} (h:Sz y k) (b:x.natAbs<=y.natAbs):Sz x k:=abZ b h
theorem oG {k:Nat} (h:0<k):Sz 1 k:=by grind [Sz]
theorem Nw:Bh 1:=oG (by omega)
theorem Qe (h:x<0):sg x= -1:=by simp[sg,h]
theorem Av {z:Int} (h:0<=z):0<=sg z:=by grind [sg]
theorem Cz (a b:Int) (g:b≠0) (x:Bh a) (s:Bh b):CallC prog 129 [tZ a,tZ b] ⟨[],.tup [(true,cZ (a/b)),(true,cZ (a%b)),(false,[.p (.raw (.bool true))])]⟩:=by
 have E:=x.len;have F:=s.len;have t1:=jg (au a.natAbs) x.bg.len;have t2:=jg (au b.natAbs) s.bg.len;rw[iQ]at t1 t2;have D:(au b.natAbs).length≠0:=fun h=>g (by grind [fW])
 have y:=NZ a.natAbs b.natAbs (by omega) E F;have u:Bh (tq a b):=x.le (by simp_all[QE,acx]);have v:Bh (tr a b):=s.le (acN (J4 g));have c:=jS (!(decide (a<0)==decide (b<0))) (au (a.natAbs/b.natAbs)) (aE _) (by have:=u.bg.len;grind [QE]);have e:=jS (decide (a<0)) (au (a.natAbs%b.natAbs)) (aE _) (by have:=v.bg.len;grind [QG]);rw[az,show gI _ _=tq a b from rfl]at c;rw[az,show gI _ _=tr a b from rfl]at e;have t:=lL (tr a b) v.bg;have G:= @F8 a b g;have H:= @IZ a b;have I:= @I0 a b;generalize tq a b=Q at*
 generalize tr a b=R at*
 by_cases w:R<0
 ·have j:=jS false (au b.natAbs) (aE _) (by omega);rw[az,show gI false b.natAbs=((b.natAbs:Nat):Int)from rfl]at j;have C:=tS R (b.natAbs:Int) v (by grind [Sz]);have m:=lL b s.bg;have B:=fh 1 (by omega) (by omega);rw[Qe w]at t;by_cases r:b<0
  ·obtain⟨o,q⟩:=H r w;rw[o,q];rw[Qe r]at m;have f:=tS Q 1 u Nw;refine ay func129 rfl ntmps129 (aA (k:=cQ [⟨2,_,_,_,t1⟩,⟨5,_,_,_,t2⟩] (k:=ai (ar (k:=aq rfl (ak (bM [⟨2,_,_,_,y⟩] (k:=cQ [⟨6,_,_,_,c⟩,⟨10,_,_,_,e⟩] (k:=?_)))))))));refine bo.weak (aj (tm:=(jk::jk::.one (.ptr 2 0 0 0)::.one (.ptr 3 0 0 0)::.one (.ptr 4 0 0 0)::.one (.ptr 5 0 0 0)::.raw (.bool false)::jk::cK (au b.natAbs)::jk::jk::.one (.ptr 11 0 0 0)::.one (.ptr 12 0 0 0)::j16 (j16 (j16 ([]))))) (l:=[(2,ve (decide (a<0)) (au a.natAbs)),(3,ve true (au b.natAbs)),(4,ud),(5,ud),(11,ve (decide (Q<0)) (au Q.natAbs)),(12,ve true (au R.natAbs))]) ⟨rfl,rfl,rfl,rfl,rfl,rfl,trivial⟩ (by simp[wk])) ?_;refine ai (bK [⟨1,_,_,_,t⟩] (k:=aC rfl (cQ [⟨2,_,_,_,j⟩,⟨3,_,_,_,C⟩] (k:=ai (bK [⟨1,_,_,_,m⟩] (k:=aC rfl ?_))))));refine wj [(12,4,65)] cf [⟨1,_,_,_,B⟩,⟨2,_,_,_,f⟩] [] (by kernel_rfl) (QB (n:=2) (by simp only[vN,sj,pi,nj,vM,si,nk,yy,sn,ni,Co,vL,sk]) (by decide)) (G9 rfl rfl (by decide)) fun _ K=>?_;simp(disch:=omega) only[kd,tZ,aa,ab,af];apply K
   (refine aW ⟨.inr rfl,cd rfl ?_ rfl⟩;simp(disch:=omega) only[kd,results129,ab,aa,cZ])
  obtain⟨o,q⟩:=I (by omega) w;rw[o,q];have A:=Av (z:=b) (by omega);have f:=CJ Q 1 u Nw;refine ay func129 rfl ntmps129 (aA (k:=cQ [⟨2,_,_,_,t1⟩,⟨5,_,_,_,t2⟩] (k:=ai (ar (k:=aq rfl (ak (bM [⟨2,_,_,_,y⟩] (k:=cQ [⟨6,_,_,_,c⟩,⟨10,_,_,_,e⟩] (k:=?_)))))))));refine bo.weak (aj (tm:=(jk::jk::.one (.ptr 2 0 0 0)::.one (.ptr 3 0 0 0)::.one (.ptr 4 0 0 0)::.one (.ptr 5 0 0 0)::.raw (.bool false)::jk::cK (au b.natAbs)::jk::jk::.one (.ptr 11 0 0 0)::.one (.ptr 12 0 0 0)::j16 (j16 (j16 ([]))))) (l:=[(2,ve (decide (a<0)) (au a.natAbs)),(3,ve false (au b.natAbs)),(4,ud),(5,ud),(11,ve (decide (Q<0)) (au Q.natAbs)),(12,ve true (au R.natAbs))]) ⟨rfl,rfl,rfl,rfl,rfl,rfl,trivial⟩ (by simp[wk])) ?_;refine ai (bK [⟨1,_,_,_,t⟩] (k:=aC rfl (cQ [⟨2,_,_,_,j⟩,⟨3,_,_,_,C⟩] (k:=ai (bK [⟨1,_,_,_,m⟩] (k:=aq rfl (ak ?_)))))));refine wj [(12,4,65)] cf [⟨1,_,_,_,B⟩,⟨2,_,_,_,f⟩] [] (by kernel_rfl) (QB (n:=2) (by simp only[vN,sj,pi,nj,vM,si,nk,yy,sn,ni,Co,vL,sk]) (by decide)) (G9 rfl rfl (by decide)) fun _ K=>?_;simp(disch:=omega) only[kd,tZ,aa,ab,af];apply K
  (refine aW ⟨.inr rfl,cd rfl ?_ rfl⟩;simp(disch:=omega) only[kd,results129,ab,aa,cZ])
 obtain⟨o,q⟩:=G (by omega);rw[o,q];have A:=Av (z:=R) (by omega);refine ay func129 rfl ntmps129 (aA (k:=cQ [⟨2,_,_,_,t1⟩,⟨5,_,_,_,t2⟩] (k:=ai (ar (k:=aq rfl (ak (bM [⟨2,_,_,_,y⟩] (k:=cQ [⟨6,_,_,_,c⟩,⟨10,_,_,_,e⟩] (k:=?_)))))))));refine bo.weak (aj (tm:=(jk::jk::.one (.ptr 2 0 0 0)::.one (.ptr 3 0 0 0)::.one (.ptr 4 0 0 0)::.one (.ptr 5 0 0 0)::.raw (.bool false)::jk::cK (au b.natAbs)::jk::jk::.one (.ptr 11 0 0 0)::.one (.ptr 12 0 0 0)::j16 (j16 (j16 ([]))))) (l:=[(2,ve (decide (a<0)) (au a.natAbs)),(3,ve (decide (b<0)) (au b.natAbs)),(4,ud),(5,ud),(11,ve (decide (Q<0)) (au Q.natAbs)),(12,ve false (au R.natAbs))]) ⟨rfl,rfl,rfl,rfl,rfl,rfl,trivial⟩ (by simp[wk])) ?_;refine ai (bK [⟨1,_,_,_,t⟩] (k:=aq rfl (ak ?_)));refine wj [(12,4,65)] cf [] [] (by kernel_rfl) (QB (n:=2) (by simp only[vN,sj,pi,nj,vM,si,nk,yy,sn,ni,Co,vL,sk]) (by decide)) (G9 rfl rfl (by decide)) fun _ K=>?_;simp(disch:=omega) only[kd,aa,ab];apply K
 (refine aW ⟨.inr rfl,cd rfl ?_ rfl⟩;simp(disch:=omega) only[kd,results129,ab,aa,cZ])
theorem ze (a b:Int) (c:b≠0) (f:Bh a) (g:Bh b):CallC prog 76 [tZ a,tZ b] ⟨[],tZ (a/b)⟩:=by
 have e:=Cz a b c f g;refine ay func76 rfl ntmps76 (aA (k:=bK [⟨2,_,_,_,e⟩] (k:=ar (k:=aG @results76))))
abbrev rOk (n:Nat) (r:List Int):Prop:=1<=r.length/\r.length<=16/\r.length=n
def Fm (M:List (List Int)):Prop:=1<=M.length/\M.length<=16/\ ∀r∈M,rOk (M.headD []).length r
instance (M:List (List Int)):Decidable (Fm M):=by unfold Fm;exact inferInstance
def Xi (M:List (List Int)):TV:=if Fm M then .tup [(false,[.p (.raw (.int .i64 (M.length:Int)))]),(false,[.p (.raw (.int .i64 ((M.headD []).length:Int)))]),(false,[.p (.raw (.bool true))])]
 else .tup [(false,[.p (.raw (.int .i64 0))]),(false,[.p (.raw (.int .i64 0))]),(false,[.p (.raw (.bool false))])]
theorem gJ (h: ¬Fm c):Xi c= .tup [(false,[.p (.raw (.int .i64 0))]),(false,[.p (.raw (.int .i64 0))]),(false,[.p (.raw (.bool false))])]:=by grind [Xi]
theorem iN (h:Fm c):Xi c= .tup [(false,[.p (.raw (.int .i64 (c.length:Int)))]),(false,[.p (.raw (.int .i64 ((c.headD []).length:Int)))]),(false,[.p (.raw (.bool true))])]:=by grind [Xi]
theorem jA {M:List (List Int)} (h:1<=M.length):M[0]?=some (M.headD []):=by cases M with
 |nil=>simp at h
 |cons r M=>rfl
structure ShG (M:List (List Int)) where
 i:Nat
 hi:i<=M.length
 ok: ∀r∈M.take i,rOk (M.headD []).length r
theorem qv (M:List (List Int)):CallC prog 113 [dF M] ⟨[],Xi M⟩:=by
 by_cases p:M.length<1
 ·rw[gJ (fun h=>by have:=h.1;omega)];refine ay func113 rfl ntmps113 (aA (k:=ai (ar (k:=aC rfl (bz (k:=aG @results113))))))
 by_cases q:16<M.length
 ·rw[gJ (fun h=>by have:=h.2.1;omega)];refine ay func113 rfl ntmps113 (aA (k:=ai (ar (k:=aC rfl (bz (k:=aG @results113))))))
 have e:=jA (M:=M) (by omega);refine ay func113 rfl ntmps113 (aA (k:=ai (ar (k:=aq rfl (ak (ai (bz (k:=?_))))))));refine aF (G:=ShG M) (fun g=>⟨(dF M::jk::.raw (.int .i64 0)::.raw (.int .i64 0)::.raw (.bool false)::j4 (j4 (jk::jk::dF M::rN M.length::rN g.i::j16 (j4 (j4 (jk::jk::jk::[])))))),Hm []⟩) (fun g=>M.length-g.i) ⟨0,by omega,fun r c=>by simp at c⟩ ?_ ?_
 ·refine aj trivial ?_;simp[wk]
 rintro⟨i,s,ok⟩;simp only;by_cases j:i<M.length
 ·obtain⟨r,c⟩:=getElem?_of_lt j;have b:r∈M:=u5 c;refine ar (k:=bi rfl (ai (am (aK c (k:=?_)))));by_cases m:r.length<1
  ·rw[gJ (fun h=>by have:=(h.2.2 r b).1;omega)];refine ar (k:=aC rfl (bz (k:=aG @results113)))
  by_cases n:16<r.length
  ·rw[gJ (fun h=>by have:=(h.2.2 r b).2.1;omega)];refine ar (k:=aC rfl (bz (k:=aG @results113)))
  by_cases o:r.length=(M.headD []).length
  ·refine aK e (k:=aq rfl (ak (bL (k:=?_))));refine⟨⟨i+1,by omega,fun t l=>?_⟩,by simp only;omega,aj trivial ?_⟩
   ·grind [List.take_add_one]
   simp[wk]
  rw[gJ (fun h=>by have:=(h.2.2 r b).2.2;omega)];refine aK e (k:=aC rfl (bz (k:=aG @results113)))
 have f:Fm M:=⟨by omega,by omega,fun r c=>ok r (by grind)⟩;rw[iN f];refine ar (k:=bv rfl (gW e (k:=aG @results113)))
def Zm (M:List (List Int)):Prop:=Fm M/\M.length=(M.headD []).length
instance (M:List (List Int)):Decidable (Zm M):=by unfold Zm;exact inferInstance
def Vm (M:List (List Int)):TV:=if Zm M then .tup [(false,[.p (.raw (.int .i64 (M.length:Int)))]),(false,[.p (.raw (.bool true))])]else .tup [(false,[.p (.raw (.int .i64 0))]),(false,[.p (.raw (.bool false))])]
theorem CH (M:List (List Int)):CallC prog 102 [dF M] ⟨[],Vm M⟩:=by
 have b:=qv M;by_cases c:Fm M
 ·rw[iN c]at b;by_cases e:M.length=(M.headD []).length
  ·rw[show Vm M=_ from if_pos ⟨c,e⟩];refine ay func102 rfl ntmps102 (aA (k:=bM [⟨1,_,_,_,b⟩] (k:=ai (ar (k:=aq rfl (ak (bz (k:=aG @results102))))))))
  rw[show Vm M=_ from if_neg (fun h=>e h.2)];refine ay func102 rfl ntmps102 (aA (k:=bM [⟨1,_,_,_,b⟩] (k:=ai (ar (k:=aC rfl (bz (k:=aG @results102)))))))
 rw[gJ c]at b;rw[show Vm M=_ from if_neg (fun h=>c h.1)];refine ay func102 rfl ntmps102 (aA (k:=bM [⟨1,_,_,_,b⟩] (k:=ai (ar (k:=aC rfl (bz (k:=aG @results102)))))))
def kG (d:Nat) (l:List Nat):List (List AV):=l.mapIdx fun k c=>[.sl d (k+1) 0 c]
def oD (r:List Int):OObj:=⟨65,2,lc fZ r⟩
def Va (d:Nat) (R:List (List Int)):List OObj:=⟨85,1,kG d (R.map List.length)⟩::R.map oD
def Vt (d n c i:Nat):List OObj:=⟨85,1,kG d (ae i c)++ae (n-i) [.p (.sl [])]⟩::ae i (oD (ae c 0))
theorem dj (d:Nat) (l:List Nat):(kG d l).length=l.length:=by simp[kG]
theorem rU (d:Nat) (l:List Nat) (c:Nat):kG d (l++[c])=kG d l++[[.sl d (l.length+1) 0 c]]:=by simp_all[kG]
theorem Vl (d:Nat) (l:List Nat):(kG d l).map (List.map E6)=kG d l:=by
 apply aay;intro k;simp only[kG,u9,aec];cases l[k]?<;>rfl
theorem Y2 (r:List Int):(lc fZ r).map (List.map E6)=lc fZ r:=by simp[lc,fZ,E6,Fe]
theorem ME (d n c:Nat):([⟨85,1,ae n [.raw (.slice none 0 0)]⟩]:List OObj).map zO=Vt d n c 0:=by
 simp[Vt,zO,kG,E6,Fe]
theorem Rt (d n c:Nat):Vt d n c n=Va d (ae n (ae c 0)):=by
 simp[Vt,Va]
theorem J9 {d c i:Nat} (b:i<n):(kG d (ae i c)++ae (n-i) [AV.p (PV.sl [])])[i]?=some [.p (.sl [])]:=by
 grind [dj]
theorem Ru {d i:Nat} (e:i<n):
  ((⟨85,1,(kG d (ae i m)++ae (n-i) [AV.p (PV.sl [])]).set i [.sl d (i+1) 0 m]⟩::ae i (oD (ae m 0))++[⟨65,2,ae m [.raw (.bool false),.raw (.slice none 0 0)]⟩]:List OObj)).map zO=Vt d n m (i+1):=by
 have b:(kG d (ae i m)++ae (n-i) [AV.p (PV.sl [])]).set i [.sl d (i+1) 0 m]=kG d (ae (i+1) m)++ae (n-(i+1)) [AV.p (PV.sl [])]:=by
  rw[abU _ _ (by simp[dj]),dj,aaX,abQ,acB (n:=i),rU,aaX,aaL]
  congr 1
  rw[show n-i=n-(i+1)+1 by omega,acG];rfl
 rw[b];simp only[acq,aaC,aba,aes,Vt]
 congr 1
 ·simp[zO,Vl,E6,Fe]
 rw[acB]
 congr 1
 ·grind [zO,oD,Y2]
 simp[zO,oD,lc,fZ,E6,Fe,ce,ls]
theorem JQ (d e:Nat) (l:List Nat):(kG d l).map (List.map (bY e))=kG e l:=by
 apply aay;intro k;simp only[kG,u9,aec];cases l[k]?<;>rfl
theorem TO (e:Nat) (r:List Int):renO e (oD r)=oD r:=by simp[renO,oD,iH]
theorem Jr (d e:Nat) (R:List (List Int)):(Va d R).map (renO e)=Va e R:=by
 grind [Va,renO,JQ,List.map_congr_left,TO]
structure ZrG (n:Nat) where
 i:Nat
 hi:i<=n
theorem wu (n c:Nat) (l:n<=16) (h:c<=16):CallC prog 51 [.raw (.int .i64 (n:Int)),.raw (.int .i64 (c:Int))] ⟨Va 0 (ae n (ae c 0)),.one (.sl 0 0 0 n)⟩:=by
 refine ay func51 rfl ntmps51 (aA (k:=ar (k:=ai (bz (k:=?_)))));refine aF (G:=ZrG n) (fun g=>⟨(.raw (.int .i64 (n:Int))::rN c::jk::jk::.raw (.slice none 0 0)::.one (.sl 8 0 0 n)::j4 (.raw (.int .i64 (n:Int))::rN g.i::j4 (j4 (jk::[])))),Hm [(8,Vt 8 n c g.i)]⟩) (fun g=>n-g.i) ⟨0,by omega⟩ ?_ ?_
 ·refine(gQ 8).trans (aj ⟨ME 8 n c,trivial⟩ ?_);simp[wk]
 rintro⟨i,j⟩;simp only;by_cases e:i<n
 ·refine ar (k:=bi rfl (ai (am (bz (k:=?_)))));simp only[Vt];have f:=J9 (d:=8) (c:=c) e;refine dZ (aH f (aH @aaX (aH @acr (@ite_self.{1})))) (k:=bL (k:=?_));refine⟨⟨i+1,by omega⟩,by grind,(gQ 8).trans (aj ⟨Ru e,trivial⟩ ?_)⟩;simp[wk]
 have b:i=n:=by omega
 subst b;refine ar (k:=bv rfl ?_);show bo _ _ _ _;rw[Rt];refine bz (k:=?_);refine aW ⟨.inr rfl,_,bD.refl _,?_⟩;refine⟨.one (.sl 8 0 0 i),8,?_,rfl,?_,rfl⟩
 ·simp(disch:=omega) only[kd,results51]
 grind [Jr]
abbrev iT (d n c:Nat) (f:FF):List OObj:=⟨85,1,kG d (ae n c)⟩::(mat n c f).map oD
theorem O4 (n c:Nat) (f:FF):(mat n c f).map List.length=ae n c:=by
 apply aay;grind [bE,aI,aU]
theorem p7 (d n c:Nat) (f:FF):Va d (mat n c f)=iT d n c f:=by rw[Va,O4]
theorem rh (n c:Nat):ae n (ae c (0:Int))=mat n c fun _ _=>0:=by
 apply aay;intro i;rw[aaY];by_cases h:i<n
 ·rw[bE _ _ h,if_pos h]
  congr 1
  apply aay;grind [aB,aI]
 grind [aU]
theorem ch {n i:Nat} (d c:Nat) (h:i<n):(kG d (ae n c))[i]?=some [.sl d (i+1) 0 c]:=by
 simp[kG,h]
theorem fG {n i:Nat} (c:Nat) (f:FF) (h:i<n):((mat n c f).map oD)[i]?=some ⟨65,2,lc fZ (aQ c (f i))⟩:=by
 rw[u9,bE _ _ h];rfl
def upd (f:FF) (i j:Nat) (v:Int):Nat->Nat->Int:=fun a=>if a=i then(fun b=>if b=j then v else f i b)else f a
theorem k9 {n i j:Nat} (c:Nat) (f:FF) (v:Int):((mat n c f).map oD).set i ⟨65,2,(lc fZ (aQ c (f i))).set j [.p (.raw (.bool (decide (v<0)))),.p (.sl (ls fU (au v.natAbs)))]⟩=(mat n c (upd f i j v)).map oD:=by
 have e:(⟨65,2,(lc fZ (aQ c (f i))).set j [.p (.raw (.bool (decide (v<0)))),.p (.sl (ls fU (au v.natAbs)))]⟩:OObj)=oD (aQ c fun b=>if b=j then v else f i b):=by
  rw[<- mn,oD,<- tg];rfl
 rw[e,<- adr,Jm];rfl
theorem ca {g:FF} (h: ∀i j,i<n->j<m->e i j=g i j):(mat n m e).map oD=(mat n m g).map oD:=by rw[gu h]
theorem gz (d e n c:Nat) (f:FF):(iT d n c f).map (renO e)=iT e n c f:=by rw[<- p7,<- p7,Jr]
theorem j1 {H:OH} {d:Nat} (h:H d=iT d n m e):uQ H d:=fun r o g b j x p=>by
 rw[h]at g;cases r with
 |succ r=>
  rw[abJ,u9]at g;obtain⟨l,q,rfl⟩:=u6.1 g;exact .inl (bF _ _ l b j x p)
 |zero=>
  grind [List.mem_iff_getElem?,dj,ch,oD,bF,bE]
theorem SJ {H:OH} {d n c:Nat} {f:FF} (h:H d=iT d n c f):fc H d (.one (.sl d 0 0 n))=dF (mat n c f):=by
 have e:((kG d (ae n c)).map (List.map (nr H d)))=ls (fR fZ) (mat n c f):=by
  apply aay;intro i;rw[u9,fX];by_cases b:i<n
  ·rw[ch d c b,bE _ _ b];simp only[aaT,aaC,aaR,nr,h,abJ,fG _ _ b,fR,gR,Bt,oS];grind [aI]
  grind [dj,aU]
 grind [fc,dN,dj]
def WD:TV:= .tup [(false,[.p (.raw (.slice none 0 0))]),(false,[.p (.raw (.bool false))])]
def Ry (M:List (List Int)):TV:= .tup [(false,[.p (.sl (ls (fR fZ) M))]),(false,[.p (.raw (.bool true))])]
structure jo (n:Nat) where
 i:Nat
 hi:i<=n
def part (f:FF) (i j:Nat):Nat->Nat->Int:=fun a b=>if a<i\/(a=i/\b<j)then f a b else 0
theorem io (f:FF) (i j a b:Nat):upd (part f i j) i j (f i j) a b=part f i (j+1) a b:=by
 unfold upd part;by_cases c:a=i
 ·subst c;grind
 simp[c]
theorem jK (f:FF) (i a b:Nat) (e:b<n):part f i n a b=part f (i+1) 0 a b:=by
 grind [part]
theorem jJ (f:FF) (a b:Nat) (c:a<n):part f n 0 a b=f a b:=by
 grind [part]
theorem tz (f:FF):part f 0 0=fun _ _=>0:=by
 grind [part]
theorem vQ (n c:Nat) (f:FF) (I:1<=n) (F:n<=16) (C:1<=c) (B:c<=16) (v: ∀i j,i<n->j<c-> -9223372036854775808<=f i j/\f i j<=9223372036854775807):
  CallC prog 53 [dn (mat n c f)] ⟨[],Ry (mat n c f)⟩:=by
 have o:=aU n c f;have t:=bE (n:=n) c f (i:=0) (by omega);have u:=wu n c F B;rw[rh,p7]at u;refine ay func53 rfl ntmps53 (aA (k:=ai (aK o (k:=aq rfl (ak (ai (fL o (k:=?_))))))));refine aF (G:=jo n) (fun g=>⟨(dn (mat n c f)::jk::.raw (.slice none 0 0)::.raw (.bool false)::j4 (j4 (j4 (jk::dn (mat n c f)::rN n::rN g.i::j16 (j16 (j16 (j4 (j4 (jk::jk::[]))))))))),Hm []⟩) (fun g=>n-g.i) ⟨0,by omega⟩ ?_ ?_
 ·refine aj trivial ?_;simp[wk]
 rintro⟨i,D⟩;simp only;by_cases E:i<n
 ·have p:=bE c f E;refine ar (k:=bi rfl (ai (am (aK p (k:=aK (aH @aI t) (k:=aq rfl (ak (bL (k:=?_)))))))));refine⟨⟨i+1,by omega⟩,by grind,aj trivial ?_⟩;simp[wk]
 refine ar (k:=bv rfl (cn [⟨6,_,_,_,u⟩] (aH o (aH t @aI)) (k:=ai (fL o (k:=?_)))));refine aF (G:=jo n) (fun g=>⟨(dn (mat n c f)::jk::.raw (.slice none 0 0)::.raw (.bool false)::jk::jk::.one (.sl 47 0 0 n)::j16 (j16 (j4 (j4 (jk::jk::rN n::rN g.i::j16 (j4 (j4 (jk::jk::jk::[])))))))),Hm [(47,iT 47 n c (part f g.i 0))]⟩) (fun g=>n-g.i) ⟨0,by omega⟩ ?_ ?_
 ·refine aj ⟨?_,trivial⟩ ?_
  ·rw[tz];exact gz 0 47 n c _
  simp[wk]
 rintro⟨i,D⟩;simp only;by_cases h:i<n
 ·have p:=bE c f h;refine ar (k:=bi rfl (ai (am (bz (k:=aK (aH p @aI) (k:=?_))))));refine aF (G:=jo c) (fun g=>⟨(dn (mat n c f)::jk::.raw (.slice none 0 0)::.raw (.bool false)::jk::jk::.one (.sl 47 0 0 n)::rN i::j16 (j16 (j4 (j4 (jk::rN n::rN i::j4 (jk::jk::rN c::rN g.i::j16 (jk::jk::jk::[]))))))),Hm [(47,iT 47 n c (part f i g.i))]⟩) (fun g=>c-g.i) ⟨0,by omega⟩ ?_ ?_
  ·refine aj ⟨rfl,trivial⟩ ?_;simp[wk]
  rintro⟨j,J⟩;simp only;by_cases m:j<c
  ·have s:=aB (f i) m;have z:=fh (f i j) (v i j h m).1 (v i j h m).2;have w:=ch (n:=n) (i:=i) 47 c h;have x:=fG c (part f i j) h;have y:=aB (part f i j i) m;refine ar (k:=bi rfl (ai (am (bz (k:=gf [⟨12,_,_,_,z⟩] (aH w (aH p (aH s (aH x (aH y @k9))))) (k:=bL (k:=?_)))))));refine⟨⟨j+1,by omega⟩,by grind,aj ⟨?_,trivial⟩ ?_⟩
   ·show _::_=_::_;simp_all[ca,io]
   simp[wk]
  have r:j=c:=by omega
  subst r;refine ar (k:=bv rfl (bL (k:=?_)));refine⟨⟨i+1,by omega⟩,by grind,aj ⟨?_,trivial⟩ ?_⟩
  ·show _::_=_::_;rw[ca fun a b _ A=>jK f i a b A]
  simp[wk]
 have q:i=n:=by omega
 subst q;refine ar (k:=bv rfl ?_);show bo _ _ _ _;have e:iT 47 i c (part f i 0)=iT 47 i c f:=by
  grind [ca,jJ]
 rw[e];refine bo.weak ((bH 47 (j1 rfl)).trans (aj (tm:=(j4 (jk::jk::dF (mat i c f)::j16 (j16 (j16 (j16 (j4 (jk::jk::jk::[])))))))) (l:=[]) trivial (by simp[wk];exact(SJ (H:=Hm [(47,iT 47 i c f)]) (d:=47) (n:=i) (c:=c) (f:=f) rfl).symm))) ?_;refine bz (k:=aG (aH @results53 @Ry.eq_1))
structure FiN (M:List (List Int)) where
 i:Nat
 hi:i<=M.length
 ok: ∀r∈M.take i,rOk (M.headD []).length r
theorem CB (M:List (List Int)) (e: ¬Fm M):CallC prog 53 [dn M] ⟨[],WD⟩:=by
 by_cases n:M.length<1
 ·refine ay func53 rfl ntmps53 (aA (k:=ai (ar (k:=aC rfl (bz (k:=aG (aH @results53 @WD.eq_1)))))))
 by_cases o:16<M.length
 ·refine ay func53 rfl ntmps53 (aA (k:=ai (ar (k:=aC rfl (bz (k:=aG (aH @results53 @WD.eq_1)))))))
 have c:=jA (M:=M) (by omega);refine ay func53 rfl ntmps53 (aA (k:=ai (ar (k:=aq rfl (ak (ai (bz (k:=?_))))))));refine aF (G:=FiN M) (fun g=>⟨(dn M::jk::.raw (.slice none 0 0)::.raw (.bool false)::j4 (j4 (j4 (jk::dn M::rN M.length::rN g.i::j16 (j16 (j16 (j4 (j4 (jk::jk::[]))))))))),Hm []⟩) (fun g=>M.length-g.i) ⟨0,by omega,fun r b=>by simp at b⟩ ?_ ?_
 ·refine aj trivial ?_;simp[wk]
 rintro⟨i,p,ok⟩;simp only;by_cases f:i<M.length
 ·obtain⟨r,b⟩:=getElem?_of_lt f;refine ar (k:=bi rfl (ai (am (aK b (k:=?_)))));by_cases j:r.length<1
  ·refine ar (k:=aC rfl (bz (k:=aG (aH @results53 @WD.eq_1))))
  by_cases l:16<r.length
  ·refine ar (k:=aC rfl (bz (k:=aG (aH @results53 @WD.eq_1))))
  by_cases m:r.length=(M.headD []).length
  ·refine aK c (k:=aq rfl (ak (bL (k:=?_))));refine⟨⟨i+1,by omega,fun q h=>?_⟩,by simp only;omega,aj trivial ?_⟩
   ·grind [List.take_add_one]
   simp[wk]
  refine aK c (k:=aC rfl (bz (k:=aG (aH @results53 @WD.eq_1))))
 exact absurd ⟨by omega,by omega,fun r b=>ok r (by grind)⟩ e
theorem VF (n c:Nat) (f:FF) (e:1<=n) (m:n<=16) (b:1<=c) (h:c<=16) (l: ∀i j,i<n->j<c-> -9223372036854775808<=f i j/\f i j<=9223372036854775807):
  CallC prog 23 [dn (mat n c f)] ⟨[],dF (mat n c f)⟩:=by
 have g:=vQ n c f e m b h l;refine ay func23 rfl ntmps23 (aA (k:=fj [⟨1,_,_,_,g⟩] @Ry.eq_1 (k:=bz (k:=aG @results23))))
end Go.Proofs.YtalmoejhjceflaaGreat
