/-
  Part 8 of a proof (walks and plain facts).
-/
import Derived.Test.YtpgghglbpcabkaaGreatP06
set_option linter.all false
set_option maxRecDepth 100000
set_option maxHeartbeats 64000000
namespace Go.Proofs.YtpgghglbpcabkaaGreat
open Go.RowKit
def sumL:List Nat->List Nat->Nat->List Nat
 |[],[],c=>[c]
 |a::m,[],c=>(c+a)%4294967296::sumL m [] ((c+a)/4294967296)
 |[],b::n,c=>(c+b)%4294967296::sumL [] n ((c+b)/4294967296)
 |a::m,b::n,c=>(c+a+b)%4294967296::sumL m n ((c+a+b)/4294967296)
theorem iS: ∀(m n:List Nat) (c:Nat),natV (sumL m n c)=natV m+natV n+c
 |[],[],c=>by simp[sumL,natV]
 |a::m,[],c=>by simp only[sumL,natV,iS m []];omega
 |[],b::n,c=>by simp only[sumL,natV,iS [] n];omega
 |a::m,b::n,c=>by simp only[sumL,natV,iS m n];omega
theorem dB {a:Nat} {l:List Nat}:Lmb (a::l)↔a<4294967296/\Lmb l:=by simp[Lmb]
theorem jD: ∀(m n:List Nat) (c:Nat),Lmb m->Lmb n->c<=1->Lmb (sumL m n c)
 |[],[],c,_,_,hc=>by simp[sumL,Lmb];omega
 |a::m,[],c,hm,hn,hc=>by
  rw[dB]at hm
  rw[sumL,dB]
  exact⟨Nat.mod_lt _ (by omega),jD m [] _ hm.2 hn (by omega)⟩
 |[],b::n,c,hm,hn,hc=>by
  rw[dB]at hn
  rw[sumL,dB]
  exact⟨Nat.mod_lt _ (by omega),jD [] n _ hm hn.2 (by omega)⟩
 |a::m,b::n,c,hm,hn,hc=>by
  rw[dB]at hm hn
  rw[sumL,dB]
  exact⟨Nat.mod_lt _ (by omega),jD m n _ hm.2 hn.2 (by omega)⟩
theorem ju: ∀(m n:List Nat) (c:Nat),(sumL m n c).length=max m.length n.length+1
 |[],[],c=>by simp[sumL]
 |a::m,[],c=>by simp[sumL,ju m []]
 |[],b::n,c=>by simp[sumL,ju [] n]
 |a::m,b::n,c=>by simp[sumL,ju m n]
theorem dM {l:List Nat} {i a:Nat} (h:l[i]?=some a):l.drop i=a::l.drop (i+1):=by
 obtain⟨h1,rfl⟩:=List.getElem?_eq_some_iff.1 h
 exact List.drop_eq_getElem_cons h1
theorem dA {l:List Nat} {i:Nat} (h:l.length<=i):l.drop i=[]:=List.drop_eq_nil_iff.2 h
theorem ct {l:List Nat} {i a:Nat} (hl:Lmb l) (h:l[i]?=some a):a<4294967296:=hl a (List.mem_of_getElem? h)
theorem nB (x:Nat):IntKind.u32.wrap (x:Int)=((x%4294967296:Nat):Int):=by rw[IntKind.wrap_u32];omega
theorem ya (x:Nat):(x:Int).fdiv (2^(min 32 IntKind.u64.bits))=((x/4294967296:Nat):Int):=by
 show Int.fdiv (x:Int) 4294967296=_
 rw[Int.fdiv_eq_ediv_of_nonneg _ (by omega)];omega
structure Fe (m n:List Nat) where
 i:Nat
 o:List Nat
 c:Nat
 hi:i<=max m.length n.length
 hc:c<=1
 ho:o.length=i
 h:o++sumL (m.drop i) (n.drop i) c=sumL m n 0
theorem EE (m n:List Nat) (lm:Lmb m) (ln:Lmb n) (bm:m.length<=1073741824) (bn:n.length<=1073741824):
  CallC Tryz.prog 154 [bO m,bO n] ⟨[],bO (sumL m n 0)⟩:=by
 refine aC Tryz.func154 rfl (by kernel_rfl) ?_;rw[Tryz.ntmps154]
 (refine aa [] fun K hK=>?_;simp(disch:=omega) only[kc,ab,bO,Nat.reduceAdd,List.replicate,ac,Value.oneCell'];apply hK)
 (refine aa [] fun K hK=>?_;simp(disch:=omega) only[kc,ab,ac,Value.oneCell'];apply hK)
 (refine aa [] fun K hK=>?_;simp(disch:=omega) only[kc,ab,ac,Value.oneCell'];apply hK)
 (refine ae (aa [] fun K hK=>?_);simp(disch:=omega) only[kc,ab,ac,Value.oneCell'];apply hK)
 refine bT (G:=Fe m n) (fun g=>⟨[bO m,bO n,jk,jk,.raw (.slice none 0 0),.one (.sl 46 0 0 g.o.length),.raw (.int .u64 (g.c:Int)),.raw (.int .i64 (g.i:Int)),jk,jk,jk,jk,jk,jk,jk,jk,jk,jk,jk,jk,jk,jk,jk,jk,jk,jk,jk,jk,jk,jk,jk,jk,jk,jk,jk,jk,jk,jk,jk,jk,jk,jk,jk,jk,jk,jk,jk,jk,jk,jk,jk,jk,jk,jk],Hm [(46,[⟨118,1,lc fU g.o⟩])]⟩) (fun g=>max m.length n.length-g.i) ⟨0,[],0,by omega,by omega,rfl,rfl⟩ ?_ ?_
 ·refine(lC (k:=5) (d:=46) 118 1 (by omega) rfl rfl).trans (am ⟨rfl,trivial⟩ ?_)
  simp[cu,bD,bA]
 ·rintro⟨i,o,c,hi,hc,ho,h⟩
  simp only
  have hmx:max m.length n.length<=1073741824:=by omega
  by_cases hm:i<m.length
  ·obtain⟨a,ha⟩:=getElem?_of_lt hm
   have ha':=ct lm ha
   (refine ae (aa [] fun K hK=>?_);simp(disch:=omega) only[kc,ab,Nat.reduceAdd,bO,Hm,aq,ao,ah,aD,aj,ai,bE,aA,reduceCtorEq,Option.map_none,aM,ac,Value.oneCell'];apply hK)
   refine af rfl (fun _=>ay ?_) (fun h=>by simp at h<;>omega)
   refine ae (aU ?_)
   (refine ae (aa [] fun K hK=>?_);simp(disch:=omega) only[kc,ab,Nat.reduceAdd,aq,ao,ah,aD,aj,ai,bE];apply hK)
   refine af rfl (fun _=>?_) (fun h=>by simp at h<;>omega)
   ((refine aX [] [] (by simp) fun K hK=>?_);simp(disch:=omega) only[kc,ab,Nat.reduceAdd,ag,ao,an,ah,bI,ha,fU,aO,ax,bu,bf,aj,Tryz.underlying118,bP,cS,ai];apply hK)
   show bX _ _ _ _
   (refine ae (aa [] fun K hK=>?_);simp(disch:=omega) only[kc,ab,Nat.reduceAdd,aq,ao,ah,aD,aj,ai];apply hK)
   by_cases hn:i<n.length
   ·obtain⟨b,hb⟩:=getElem?_of_lt hn
    have hb':=ct ln hb
    refine af rfl (fun _=>?_) (fun h=>by simp at h<;>omega)
    ((refine aX [] [] (by simp) fun K hK=>?_);simp(disch:=omega) only[kc,ab,Nat.reduceAdd,bE,ag,ao,an,ah,bI,hb,fU,aO,ax,bu,bf,aj,Tryz.underlying118,bP,cS,ai];apply hK)
    show bX _ _ _ _
    have e1:IntKind.u32.wrap ((c:Int)+(a:Int)+(b:Int))=(((c+a+b)%4294967296:Nat):Int):=by rw[<- nB];congr 1<;>omega
    have e2:Int.fdiv ((c:Int)+(a:Int)+(b:Int)) (2^(min 32 IntKind.u64.bits))=(((c+a+b)/4294967296:Nat):Int):=by rw[<- ya];congr 1<;>omega
    (refine aa [] fun K hK=>?_;simp(disch:=omega) only[kc,ab,Nat.reduceAdd,bf,aj,Tryz.underlying88,bZ,e1,co,aT,aI,ah,cp,aO,fW,cellsOf,isPure,Nat.reduceMul,Nat.reduceLeDiff,List.contains_nil,kW,bL,dE,l8,bN,newsOf,dz,gk,fu,fH,gN,and_true,d7,fK,f4,dr,aH,aL];apply hK)
    ((refine aX [] [] (by simp) fun K hK=>?_);simp(disch:=omega) only[kc,ab,Nat.reduceAdd,aj,ac,Value.oneCell',ai,Int.reduceLE,Int.reduceToNat,e2];apply hK)
    show bX _ _ _ _
    ((refine aX [] [] (by simp) fun K hK=>?_);simp(disch:=omega) only[kc,ab,Nat.reduceAdd,aj,ac,Value.oneCell',ai,bC];apply hK)
    refine⟨⟨i+1,o++[(c+a+b)%4294967296],(c+a+b)/4294967296,by omega,by omega,by simp[ho],?_⟩,by simp only;omega,am ⟨rfl,trivial⟩ ?_⟩
    ·rw[<- h,dM ha,dM hb,sumL,List.append_assoc];rfl
    ·simp[cu,bD,bA]
   ·refine af rfl (fun h=>by simp at h<;>omega) (fun _=>ay ?_)
    show bX _ _ _ _
    have e1:IntKind.u32.wrap ((c:Int)+(a:Int))=(((c+a)%4294967296:Nat):Int):=by rw[<- nB];congr 1<;>omega
    have e2:Int.fdiv ((c:Int)+(a:Int)) (2^(min 32 IntKind.u64.bits))=(((c+a)/4294967296:Nat):Int):=by rw[<- ya];congr 1<;>omega
    (refine aa [] fun K hK=>?_;simp(disch:=omega) only[kc,ab,Nat.reduceAdd,bj,bf,aj,Tryz.underlying88,bZ,e1,co,aT,aI,ah,cp,aO,fW,cellsOf,isPure,Nat.reduceMul,Nat.reduceLeDiff,List.contains_nil,kW,bL,dE,l8,bN,newsOf,dz,gk,fu,fH,gN,and_true,d7,fK,f4,dr,aH,aL];apply hK)
    ((refine aX [] [] (by simp) fun K hK=>?_);simp(disch:=omega) only[kc,ab,Nat.reduceAdd,aj,ac,Value.oneCell',ai,Int.reduceLE,Int.reduceToNat,e2];apply hK)
    show bX _ _ _ _
    ((refine aX [] [] (by simp) fun K hK=>?_);simp(disch:=omega) only[kc,ab,Nat.reduceAdd,aj,ac,Value.oneCell',ai,bC];apply hK)
    refine⟨⟨i+1,o++[(c+a)%4294967296],(c+a)/4294967296,by omega,by omega,by simp[ho],?_⟩,by simp only;omega,am ⟨rfl,trivial⟩ ?_⟩
    ·rw[<- h,dM ha,dA (by omega:n.length<=i),dA (by omega:n.length<=i+1),sumL,List.append_assoc];rfl
    ·simp[cu,bD,bA]
  ·by_cases hn:i<n.length
   ·obtain⟨b,hb⟩:=getElem?_of_lt hn
    have hb':=ct ln hb
    (refine ae (aa [] fun K hK=>?_);simp(disch:=omega) only[kc,ab,Nat.reduceAdd,bO,Hm,aq,ao,ah,aD,aj,ai,bj,aA,bE,bL,aM];apply hK)
    refine af rfl (fun _=>ay ?_) (fun h=>by simp at h<;>omega)
    refine ae (aU ?_)
    (refine ae (aa [] fun K hK=>?_);simp(disch:=omega) only[kc,ab,Nat.reduceAdd,aq,ao,ah,aD,aj,ai,bj];apply hK)
    refine af rfl (fun h=>by simp at h<;>omega) (fun _=>ay ?_)
    show bX _ _ _ _
    (refine ae (aa [] fun K hK=>?_);simp(disch:=omega) only[kc,ab,Nat.reduceAdd,aq,ao,ah,aD,aj,ai,bE];apply hK)
    refine af rfl (fun _=>?_) (fun h=>by simp at h<;>omega)
    ((refine aX [] [] (by simp) fun K hK=>?_);simp(disch:=omega) only[kc,ab,Nat.reduceAdd,ag,ao,an,ah,bI,hb,fU,aO,ax,bu,bf,aj,Tryz.underlying118,bP,cS,ai];apply hK)
    show bX _ _ _ _
    have e1:IntKind.u32.wrap ((c:Int)+(b:Int))=(((c+b)%4294967296:Nat):Int):=by rw[<- nB];congr 1<;>omega
    have e2:Int.fdiv ((c:Int)+(b:Int)) (2^(min 32 IntKind.u64.bits))=(((c+b)/4294967296:Nat):Int):=by rw[<- ya];congr 1<;>omega
    (refine aa [] fun K hK=>?_;simp(disch:=omega) only[kc,ab,Nat.reduceAdd,bf,aj,Tryz.underlying88,bZ,e1,co,aT,aI,ah,cp,aO,fW,cellsOf,isPure,Nat.reduceMul,Nat.reduceLeDiff,List.contains_nil,kW,bL,dE,l8,bN,newsOf,dz,gk,fu,fH,gN,and_true,d7,fK,f4,dr,aH,aL];apply hK)
    ((refine aX [] [] (by simp) fun K hK=>?_);simp(disch:=omega) only[kc,ab,Nat.reduceAdd,aj,ac,Value.oneCell',ai,Int.reduceLE,Int.reduceToNat,e2];apply hK)
    show bX _ _ _ _
    ((refine aX [] [] (by simp) fun K hK=>?_);simp(disch:=omega) only[kc,ab,Nat.reduceAdd,aj,ac,Value.oneCell',ai,bC];apply hK)
    refine⟨⟨i+1,o++[(c+b)%4294967296],(c+b)/4294967296,by omega,by omega,by simp[ho],?_⟩,by simp only;omega,am ⟨rfl,trivial⟩ ?_⟩
    ·rw[<- h,dM hb,dA (by omega:m.length<=i),dA (by omega:m.length<=i+1),sumL,List.append_assoc];rfl
    ·simp[cu,bD,bA]
   ·(refine ae (aa [] fun K hK=>?_);simp(disch:=omega) only[kc,ab,Nat.reduceAdd,bO,Hm,aq,ao,ah,aD,aj,ai,bj,aA,bL,aM];apply hK)
    refine af rfl (fun h=>by simp at h<;>omega) (fun _=>bF ?_)
    show bX _ _ _ _
    have e1:IntKind.u32.wrap (c:Int)=(c:Int):=by rw[nB];omega
    (refine aa [] fun K hK=>?_;simp(disch:=omega) only[kc,ab,Nat.reduceAdd,bf,aj,Tryz.underlying88,bZ,e1,co,aT,aI,ah,cp,aO,fW,cellsOf,isPure,Nat.reduceMul,Nat.reduceLeDiff,List.contains_nil,kW,bL,dE,l8,bN,newsOf,dz,gk,fu,fH,gN,and_true,d7,fK,f4,dr,aH,aL];apply hK)
    have hfin:sumL m n 0=o++[c]:=by rw[<- h,dA (by omega:m.length<=i),dA (by omega:n.length<=i),sumL]
    (refine aE ⟨.inr rfl,ot 46 (dL rfl) ?_ rfl⟩;simp(disch:=omega) only[kc,bK,Tryz.results154,aN,gR,eX,au,bL,ew,d8,bO])
    simp only[hfin]
    rw[List.take_of_length_le (by simp)]
def diffL:List Nat->List Nat->Nat->List Nat
 |[],_,_=>[]
 |a::m,[],w=>(a+8589934592-w)%4294967296::diffL m [] (if a<w then 1 else 0)
 |a::m,b::n,w=>(a+8589934592-(w+b))%4294967296::diffL m n (if a<w+b then 1 else 0)
theorem fE: ∀(m n:List Nat) (w:Nat),Lmb m->Lmb n->w<=1->n.length<=m.length->natV n+w<=natV m->natV (diffL m n w)+(natV n+w)=natV m
 |[],[],w,_,_,_,_,h=>by simp[diffL,natV]at*;omega
 |[],b::n,w,_,_,_,h,_=>by simp at h
 |a::m,[],w,hm,hn,hw,hl,h=>by
  rw[dB]at hm
  simp only[natV]at h
  have:=fE m [] (if a<w then 1 else 0) hm.2 hn (by split<;>omega) (by simp) (by simp only[natV];split<;>omega)
  simp only[diffL,natV]at this⊢
  split at this<;>rename_i hlt<;>simp only[hlt,if_true,if_false]<;>omega
 |a::m,b::n,w,hm,hn,hw,hl,h=>by
  rw[dB]at hm hn
  simp only[natV]at h
  have:=fE m n (if a<w+b then 1 else 0) hm.2 hn.2 (by split<;>omega) (by simpa using hl) (by split<;>omega)
  simp only[diffL,natV]at this⊢
  split at this<;>rename_i hlt<;>simp only[hlt,if_true,if_false]<;>omega
theorem gu: ∀(m n:List Nat) (w:Nat),Lmb (diffL m n w)
 |[],n,w=>by simp[diffL,Lmb]
 |a::m,[],w=>by rw[diffL,dB];exact⟨Nat.mod_lt _ (by omega),gu m [] _⟩
 |a::m,b::n,w=>by rw[diffL,dB];exact⟨Nat.mod_lt _ (by omega),gu m n _⟩
theorem gE: ∀(m n:List Nat) (w:Nat),(diffL m n w).length=m.length
 |[],n,w=>by simp[diffL]
 |a::m,[],w=>by simp[diffL,gE m []]
 |a::m,b::n,w=>by simp[diffL,gE m n]
structure ET (m n:List Nat) where
 i:Nat
 o:List Nat
 c:Nat
 hi:i<=m.length
 hc:c<=1
 ho:o.length=i
 h:o++diffL (m.drop i) (n.drop i) c=diffL m n 0
theorem i6 (m n:List Nat) (lm:Lmb m) (ln:Lmb n) (bm:m.length<=1073741824) (bn:n.length<=1073741824):
  CallC Tryz.prog 155 [bO m,bO n] ⟨[],bO (diffL m n 0)⟩:=by
 refine aC Tryz.func155 rfl (by kernel_rfl) ?_;rw[Tryz.ntmps155]
 (refine aa [] fun K hK=>?_;simp(disch:=omega) only[kc,ab,bO,Nat.reduceAdd,List.replicate,ac,Value.oneCell'];apply hK)
 (refine aa [] fun K hK=>?_;simp(disch:=omega) only[kc,ab,ac,Value.oneCell'];apply hK)
 (refine aa [] fun K hK=>?_;simp(disch:=omega) only[kc,ab,ac,Value.oneCell'];apply hK)
 (refine ae (aa [] fun K hK=>?_);simp(disch:=omega) only[kc,ab,ac,Value.oneCell'];apply hK)
 refine bT (G:=ET m n) (fun g=>⟨[bO m,bO n,jk,jk,.raw (.slice none 0 0),.one (.sl 37 0 0 g.o.length),.raw (.int .u64 (g.c:Int)),.raw (.int .i64 (g.i:Int)),jk,jk,jk,jk,jk,jk,jk,jk,jk,jk,jk,jk,jk,jk,jk,jk,jk,jk,jk,jk,jk,jk,jk,jk,jk,jk,jk,jk,jk,jk,jk,jk,jk,jk,jk,jk,jk,jk],Hm [(37,[⟨118,1,lc fU g.o⟩])]⟩) (fun g=>m.length-g.i) ⟨0,[],0,by omega,by omega,rfl,rfl⟩ ?_ ?_
 ·refine(lC (k:=5) (d:=37) 118 1 (by omega) rfl rfl).trans (am ⟨rfl,trivial⟩ ?_)
  simp[cu,bD,bA]
 ·rintro⟨i,o,c,hi,hc,ho,h⟩
  simp only
  by_cases hm:i<m.length
  ·obtain⟨a,ha⟩:=getElem?_of_lt hm
   have ha':=ct lm ha
   (refine ae (aa [] fun K hK=>?_);simp(disch:=omega) only[kc,ab,Nat.reduceAdd,bO,Hm,aq,ao,ah,aD,aj,ai,bE];apply hK)
   refine af rfl (fun _=>ay ?_) (fun h=>by simp at h<;>omega)
   refine ae (aU ?_)
   (refine aa [] fun K hK=>?_;simp(disch:=omega) only[kc,ab];apply hK)
   (refine ae (aa [] fun K hK=>?_);simp(disch:=omega) only[kc,ab,Nat.reduceAdd,aq,ao,ah,aD,aj,ai];apply hK)
   by_cases hn:i<n.length
   ·obtain⟨b,hb⟩:=getElem?_of_lt hn
    have hb':=ct ln hb
    refine af rfl (fun _=>?_) (fun h=>by simp at h<;>omega)
    ((refine aX [] [] (by simp) fun K hK=>?_);simp(disch:=omega) only[kc,ab,Nat.reduceAdd,bE,ag,ao,an,ah,bI,hb,fU,aO,ax,bu,bf,aj,Tryz.underlying118,bP,cS,ai];apply hK)
    show bX _ _ _ _
    have e1:IntKind.u32.wrap (IntKind.u64.wrap ((a:Int)-((c:Int)+(b:Int))))=(((a+8589934592-(c+b))%4294967296:Nat):Int):=by rw[IntKind.wrap_u32,IntKind.wrap_u64];omega
    (refine aa [] fun K hK=>?_;simp(disch:=omega) only[kc,ab,Nat.reduceAdd,ag,ao,an,ah,bI,ha,fU,aO,ax,bu,bf,aj,Tryz.underlying118,bP,cS,ai,Tryz.underlying88,bZ,e1,co,aT,aI,cp,fW,cellsOf,isPure,Nat.reduceMul,Nat.reduceLeDiff,List.contains_nil,kW,bL,dE,l8,bN,newsOf,dz,gk,fu,fH,gN,and_true,d7,fK,f4,dr,aH,aL];apply hK)
    (refine aa [] fun K hK=>?_;simp(disch:=omega) only[kc,ab,ac,Value.oneCell'];apply hK)
    (refine aa [] fun K hK=>?_;simp(disch:=omega) only[kc,ab,Nat.reduceAdd,ag,ao,an,ah,bI,ha,fU,aO,ax,bu,bf,aj,Tryz.underlying118,bP,cS,ai];apply hK)
    by_cases hlt:a<c+b
    ·refine af rfl (fun _=>?_) (fun h=>by simp at h<;>omega)
     ((refine aX [] [] (by simp) fun K hK=>?_);simp(disch:=omega) only[kc,ab,bE,ac,Value.oneCell'];apply hK)
     show bX _ _ _ _
     ((refine aX [] [] (by simp) fun K hK=>?_);simp(disch:=omega) only[kc,ab,Nat.reduceAdd,aj,ac,Value.oneCell',ai,bC];apply hK)
     refine⟨⟨i+1,o++[(a+8589934592-(c+b))%4294967296],1,by omega,by omega,by simp[ho],?_⟩,by simp only;omega,am ⟨rfl,trivial⟩ ?_⟩
     ·rw[<- h,dM ha,dM hb,diffL,List.append_assoc,if_pos hlt];rfl
     ·simp[cu,bD,bA]
    ·refine af rfl (fun h=>by simp at h<;>omega) (fun _=>ay ?_)
     show bX _ _ _ _
     ((refine aX [] [] (by simp) fun K hK=>?_);simp(disch:=omega) only[kc,ab,Nat.reduceAdd,cS,bj,aj,ac,Value.oneCell',ai,bC];apply hK)
     refine⟨⟨i+1,o++[(a+8589934592-(c+b))%4294967296],0,by omega,by omega,by simp[ho],?_⟩,by simp only;omega,am ⟨rfl,trivial⟩ ?_⟩
     ·rw[<- h,dM ha,dM hb,diffL,List.append_assoc,if_neg hlt];rfl
     ·simp[cu,bD,bA]
   ·refine af rfl (fun h=>by simp at h<;>omega) (fun _=>ay ?_)
    show bX _ _ _ _
    have e1:IntKind.u32.wrap (IntKind.u64.wrap ((a:Int)-(c:Int)))=(((a+8589934592-c)%4294967296:Nat):Int):=by rw[IntKind.wrap_u32,IntKind.wrap_u64];omega
    (refine aa [] fun K hK=>?_;simp(disch:=omega) only[kc,ab,Nat.reduceAdd,bj,ag,ao,an,ah,bI,ha,fU,aO,ax,bu,bf,aj,Tryz.underlying118,bP,cS,ai,Tryz.underlying88,bZ,e1,co,aT,aI,cp,fW,cellsOf,isPure,Nat.reduceMul,Nat.reduceLeDiff,List.contains_nil,kW,bL,dE,l8,bN,newsOf,dz,gk,fu,fH,gN,and_true,d7,fK,f4,dr,aH,aL];apply hK)
    (refine aa [] fun K hK=>?_;simp(disch:=omega) only[kc,ab,ac,Value.oneCell'];apply hK)
    (refine aa [] fun K hK=>?_;simp(disch:=omega) only[kc,ab,Nat.reduceAdd,ag,ao,an,ah,bI,ha,fU,aO,ax,bu,bf,aj,Tryz.underlying118,bP,cS,ai];apply hK)
    by_cases hlt:a<c
    ·refine af rfl (fun _=>?_) (fun h=>by simp at h<;>omega)
     ((refine aX [] [] (by simp) fun K hK=>?_);simp(disch:=omega) only[kc,ab,bE,ac,Value.oneCell'];apply hK)
     show bX _ _ _ _
     ((refine aX [] [] (by simp) fun K hK=>?_);simp(disch:=omega) only[kc,ab,Nat.reduceAdd,aj,ac,Value.oneCell',ai,bC];apply hK)
     refine⟨⟨i+1,o++[(a+8589934592-c)%4294967296],1,by omega,by omega,by simp[ho],?_⟩,by simp only;omega,am ⟨rfl,trivial⟩ ?_⟩
     ·rw[<- h,dM ha,dA (by omega:n.length<=i),dA (by omega:n.length<=i+1),diffL,List.append_assoc,if_pos hlt];rfl
     ·simp[cu,bD,bA]
    ·refine af rfl (fun h=>by simp at h<;>omega) (fun _=>ay ?_)
     show bX _ _ _ _
     ((refine aX [] [] (by simp) fun K hK=>?_);simp(disch:=omega) only[kc,ab,Nat.reduceAdd,cS,bj,aj,ac,Value.oneCell',ai,bC];apply hK)
     refine⟨⟨i+1,o++[(a+8589934592-c)%4294967296],0,by omega,by omega,by simp[ho],?_⟩,by simp only;omega,am ⟨rfl,trivial⟩ ?_⟩
     ·rw[<- h,dM ha,dA (by omega:n.length<=i),dA (by omega:n.length<=i+1),diffL,List.append_assoc,if_neg hlt];rfl
     ·simp[cu,bD,bA]
  ·(refine ae (aa [] fun K hK=>?_);simp(disch:=omega) only[kc,ab,Nat.reduceAdd,bO,Hm,aq,ao,ah,aD,aj,ai,bj];apply hK)
   refine af rfl (fun h=>by simp at h<;>omega) (fun _=>bF ?_)
   show bX _ _ _ _
   (refine aa [] fun K hK=>?_;simp(disch:=omega) only[kc,ab];apply hK)
   have hfin:diffL m n 0=o:=by rw[<- h,dA (by omega:m.length<=i),diffL];simp
   (refine aE ⟨.inr rfl,ot 37 (dL rfl) ?_ rfl⟩;simp(disch:=omega) only[kc,bK,Tryz.results155,aN,gR,eX,bL,ew,d8,bO])
   simp only[hfin]
   rw[List.take_of_length_le (by simp)]
abbrev Bh (z:Int):Prop:=Sz z 536870912
theorem Bh.bg {z:Int} (h:Bh z):Bg z:=h.mono (by omega)
theorem Bh.len {z:Int} (h:Bh z):(aK z.natAbs).length<=536870912:=gB h
theorem Sz.neg {z:Int} {k:Nat} (h:Sz z k):Sz (-z) k:=by unfold Sz;rw[Int.natAbs_neg];exact h
theorem Bh.neg {z:Int} (h:Bh z):Bh (-z):=Sz.neg h
theorem Bu {a b:Int} (h:decide (a<0)=decide (b<0)):eY (decide (a<0)) (a.natAbs+b.natAbs)=a+b:=by
 unfold eY
 by_cases ha:a<0<;>by_cases hb:b<0<;>simp[ha,hb]at h⊢ <;>omega
theorem sG {a b:Int} (h:decide (a<0)≠decide (b<0)) (hle:b.natAbs<=a.natAbs) {d:Nat} (hd:d+(b.natAbs+0)=a.natAbs):eY (decide (a<0)) d=a+b:=by
 unfold eY
 by_cases ha:a<0<;>by_cases hb:b<0<;>simp[ha,hb]at h⊢ <;>omega
theorem fO {l m:List Nat} (hl:Lmb l) (cm:kH m) (h:natV m<=natV l):m.length<=l.length:=by
 by_cases hc:m.length<=l.length
 ·exact hc
 ·have:=fX hl cm (by omega)
  omega
theorem zl (a b:Int) (ha:Bh a) (hb:Bh b):CallC Tryz.prog 133 [tZ a,tZ b] ⟨[],tZ (a+b)⟩:=by
 have la:=ha.len
 have lb:=hb.len
 have t1:=gL (aK a.natAbs) ha.bg.len
 have t2:=gL (aK b.natAbs) hb.bg.len
 rw[fx]at t1 t2
 by_cases hs:decide (a<0)=decide (b<0)
 ·have h3:=EE (aK a.natAbs) (aK b.natAbs) (aY _) (aY _) (by omega) (by omega)
  have h4:=gK (decide (a<0)) (sumL (aK a.natAbs) (aK b.natAbs) 0) (jD _ _ _ (aY _) (aY _) (by omega)) (by rw[ju];omega)
  rw[iS,aG,aG,Nat.add_zero,Bu hs]at h4
  have hs':(decide (a<0)==decide (b<0))=true:=by simp[hs]
  refine aC Tryz.func133 rfl (by kernel_rfl) ?_;rw[Tryz.ntmps133]
  (refine aa [] fun K hK=>?_;simp(disch:=omega) only[kc,ab,Nat.reduceAdd,tZ,List.replicate,cd,aT,aI,cellsOf,isPure,bL,au,Nat.reduceEqDiff,bs,aZ,Value.oneCell',cH];apply hK)
  (refine bM bU [⟨2,_,_,_,t1⟩,⟨5,_,_,_,t2⟩] [] (by kernel_rfl) (by simp) fun K hK=>?_;simp(disch:=omega) only[kc,bO,ar.a,ab,Nat.reduceAdd,aw,ao,bH,cb,au,Nat.reduceEqDiff,cH,ax,bW,ak,aT,aI,List.find?_cons,aQ,bo,CallRes.plain,aR,aV,az,noRefTV,ap,aS,aP,Nat.reduceBEq];apply hK)
  (refine ae (aa [] fun K hK=>?_);simp(disch:=omega) only[kc,ab,Nat.reduceAdd,aw,ao,bJ,cC,Nat.add_zero,au,Nat.reduceEqDiff,cH,ax,cg,aj,ai,dK,hs'];apply hK)
  refine af rfl (fun _=>?_) (fun h=>by simp at h)
  (refine bM bU [⟨4,_,_,_,h3⟩,⟨5,_,_,_,h4⟩] [] (by kernel_rfl) (by simp) fun K hK=>?_;simp(disch:=omega) only[kc,bO,tZ,ar.a,ab,Nat.reduceAdd,aw,ao,bJ,cC,Nat.add_zero,au,Nat.reduceEqDiff,cH,ax,cg,ak,aT,aI,List.find?_cons,aQ,bo,CallRes.plain,aR,aV,az,noRefTV,ap,aS,aP,Nat.reduceBEq,aB,dr,bN,aF,cellsOf,Nat.le_refl,isPure,bL,putCells,aH,aL];apply hK)
  (refine aE ⟨.inr rfl,aJ rfl ?_ rfl⟩;simp(disch:=omega) only[kc,bK,Tryz.results133,aN,au,Nat.reduceEqDiff,cH,ax,aF,aW,Nat.reduceAdd,Nat.le_refl,tZ])
 ·have hs':(decide (a<0)==decide (b<0))=false:=by simpa using hs
  have h3:=wP (aK a.natAbs) (aK b.natAbs) (aY _) (aY _) (cw _) (cw _) (by omega) (by omega)
  rw[aG,aG]at h3
  by_cases hle:b.natAbs<=a.natAbs
  ·have hge:0<=fg a.natAbs b.natAbs:=by unfold fg;split<;>(try split)<;>omega
   have h4:=i6 (aK a.natAbs) (aK b.natAbs) (aY _) (aY _) (by omega) (by omega)
   have h5:=gK (decide (a<0)) (diffL (aK a.natAbs) (aK b.natAbs) 0) (gu _ _ _) (by rw[gE];omega)
   have hd:=fE (aK a.natAbs) (aK b.natAbs) 0 (aY _) (aY _) (by omega) (fO (aY _) (cw _) (by rw[aG,aG];exact hle)) (by rw[aG,aG];exact hle)
   rw[aG,aG]at hd
   rw[sG hs hle hd]at h5
   refine aC Tryz.func133 rfl (by kernel_rfl) ?_;rw[Tryz.ntmps133]
   (refine aa [] fun K hK=>?_;simp(disch:=omega) only[kc,ab,Nat.reduceAdd,tZ,List.replicate,cd,aT,aI,cellsOf,isPure,bL,au,Nat.reduceEqDiff,bs,aZ,Value.oneCell',cH];apply hK)
   (refine bM bU [⟨2,_,_,_,t1⟩,⟨5,_,_,_,t2⟩] [] (by kernel_rfl) (by simp) fun K hK=>?_;simp(disch:=omega) only[kc,bO,ar.a,ab,Nat.reduceAdd,aw,ao,bH,cb,au,Nat.reduceEqDiff,cH,ax,bW,ak,aT,aI,List.find?_cons,aQ,bo,CallRes.plain,aR,aV,az,noRefTV,ap,aS,aP,Nat.reduceBEq];apply hK)
   (refine ae (aa [] fun K hK=>?_);simp(disch:=omega) only[kc,ab,Nat.reduceAdd,aw,ao,bJ,cC,Nat.add_zero,au,Nat.reduceEqDiff,cH,ax,cg,aj,ai,dK,hs'];apply hK)
   refine af rfl (fun h=>by simp at h) (fun _=>ay ?_)
   show bX _ _ _ _
   (refine ae (aa [⟨2,_,_,_,h3⟩] fun K hK=>?_);simp(disch:=omega) only[kc,bO,ar.a,ab,Nat.reduceAdd,ak,aT,aI,List.find?_cons,aQ,bo,CallRes.plain,aR,aV,az,noRefTV,ap,aS,aP,aj,ac,Value.oneCell',ai,bE];apply hK)
   refine af rfl (fun _=>?_) (fun h=>by simp at h<;>omega)
   (refine bM bU [⟨4,_,_,_,h4⟩,⟨5,_,_,_,h5⟩] [] (by kernel_rfl) (by simp) fun K hK=>?_;simp(disch:=omega) only[kc,bO,tZ,ar.a,ab,Nat.reduceAdd,aw,ao,bJ,cC,Nat.add_zero,au,Nat.reduceEqDiff,cH,ax,cg,ak,aT,aI,List.find?_cons,aQ,bo,CallRes.plain,aR,aV,az,noRefTV,ap,aS,aP,Nat.reduceBEq,aB,dr,bN,aF,cellsOf,Nat.le_refl,isPure,bL,putCells,aH,aL];apply hK)
   (refine aE ⟨.inr rfl,aJ rfl ?_ rfl⟩;simp(disch:=omega) only[kc,bK,Tryz.results133,aN,au,Nat.reduceEqDiff,cH,ax,aF,aW,Nat.reduceAdd,Nat.le_refl,tZ])
  ·have hge:fg a.natAbs b.natAbs<0:=by unfold fg;split<;>(try split)<;>omega
   have h4:=i6 (aK b.natAbs) (aK a.natAbs) (aY _) (aY _) (by omega) (by omega)
   have h5:=gK (decide (b<0)) (diffL (aK b.natAbs) (aK a.natAbs) 0) (gu _ _ _) (by rw[gE];omega)
   have hd:=fE (aK b.natAbs) (aK a.natAbs) 0 (aY _) (aY _) (by omega) (fO (aY _) (cw _) (by rw[aG,aG];omega)) (by rw[aG,aG];omega)
   rw[aG,aG]at hd
   rw[sG (fun h=>hs h.symm) (by omega) hd,Int.add_comm]at h5
   refine aC Tryz.func133 rfl (by kernel_rfl) ?_;rw[Tryz.ntmps133]
   (refine aa [] fun K hK=>?_;simp(disch:=omega) only[kc,ab,Nat.reduceAdd,tZ,List.replicate,cd,aT,aI,cellsOf,isPure,bL,au,Nat.reduceEqDiff,bs,aZ,Value.oneCell',cH];apply hK)
   (refine bM bU [⟨2,_,_,_,t1⟩,⟨5,_,_,_,t2⟩] [] (by kernel_rfl) (by simp) fun K hK=>?_;simp(disch:=omega) only[kc,bO,ar.a,ab,Nat.reduceAdd,aw,ao,bH,cb,au,Nat.reduceEqDiff,cH,ax,bW,ak,aT,aI,List.find?_cons,aQ,bo,CallRes.plain,aR,aV,az,noRefTV,ap,aS,aP,Nat.reduceBEq];apply hK)
   (refine ae (aa [] fun K hK=>?_);simp(disch:=omega) only[kc,ab,Nat.reduceAdd,aw,ao,bJ,cC,Nat.add_zero,au,Nat.reduceEqDiff,cH,ax,cg,aj,ai,dK,hs'];apply hK)
   refine af rfl (fun h=>by simp at h) (fun _=>ay ?_)
   show bX _ _ _ _
   (refine ae (aa [⟨2,_,_,_,h3⟩] fun K hK=>?_);simp(disch:=omega) only[kc,bO,ar.a,ab,Nat.reduceAdd,ak,aT,aI,List.find?_cons,aQ,bo,CallRes.plain,aR,aV,az,noRefTV,ap,aS,aP,aj,ac,Value.oneCell',ai,bj];apply hK)
   refine af rfl (fun h=>by simp at h<;>omega) (fun _=>ay ?_)
   show bX _ _ _ _
   (refine bM bU [⟨4,_,_,_,h4⟩,⟨5,_,_,_,h5⟩] [] (by kernel_rfl) (by simp) fun K hK=>?_;simp(disch:=omega) only[kc,bO,tZ,ar.a,ab,Nat.reduceAdd,aw,ao,bJ,cC,Nat.add_zero,au,Nat.reduceEqDiff,cH,ax,cg,ak,aT,aI,List.find?_cons,aQ,bo,CallRes.plain,aR,aV,az,noRefTV,ap,aS,aP,Nat.reduceBEq,aB,dr,bN,aF,cellsOf,Nat.le_refl,isPure,bL,putCells,aH,aL];apply hK)
   (refine aE ⟨.inr rfl,aJ rfl ?_ rfl⟩;simp(disch:=omega) only[kc,bK,Tryz.results133,aN,au,Nat.reduceEqDiff,cH,ax,aF,aW,Nat.reduceAdd,Nat.le_refl,tZ])
theorem Dq (a b:Int) (ha:Bh a) (hb:Bh b):CallC Tryz.prog 125 [tZ a,tZ b] ⟨[],tZ (a-b)⟩:=by
 have h1:=DC b hb.bg
 have h2:=zl a (-b) ha hb.neg
 rw[<- Int.sub_eq_add_neg]at h2
 refine aC Tryz.func125 rfl (by kernel_rfl) ?_;rw[Tryz.ntmps125]
 (refine aa [] fun K hK=>?_;simp(disch:=omega) only[kc,ab,Nat.reduceAdd,tZ,List.replicate,cd,aT,aI,cellsOf,isPure,bL,au,Nat.reduceEqDiff,bs,aZ,Value.oneCell',cH];apply hK)
 (refine bM bU [⟨2,_,_,_,h1⟩,⟨3,_,_,_,h2⟩] [] (by kernel_rfl) (by simp) fun K hK=>?_;simp(disch:=omega) only[kc,tZ,ar.a,ab,Nat.reduceAdd,ao,au,Nat.reduceEqDiff,cH,ax,aF,aW,Nat.le_refl,ak,aT,aI,List.find?_cons,aQ,bo,CallRes.plain,aR,aV,az,isPure,noRefTV,ap,aS,aP,Nat.reduceBEq,aB,dr,bN,cellsOf,bL,putCells,aH,aL];apply hK)
 (refine aE ⟨.inr rfl,aJ rfl ?_ rfl⟩;simp(disch:=omega) only[kc,bK,Tryz.results125,aN,au,Nat.reduceEqDiff,cH,ax,aF,aW,Nat.reduceAdd,Nat.le_refl,tZ])
theorem lT: ∀(l:List Nat) (k v o:Nat),l[k]?=some o->natV (l.set k v)+o*4294967296^k=natV l+v*4294967296^k
 |[],k,v,o,h=>by simp at h
 |a::l,0,v,o,h=>by simp at h;subst h;simp[natV];omega
 |a::l,k+1,v,o,h=>by
  simp at h
  have:=lT l k v o h
  simp only[List.set_cons_succ,natV,Nat.pow_succ]
  have e1:o*(4294967296^k*4294967296)=4294967296*(o*4294967296^k):=by rw[<- Nat.mul_assoc,Nat.mul_comm]
  have e2:v*(4294967296^k*4294967296)=4294967296*(v*4294967296^k):=by rw[<- Nat.mul_assoc,Nat.mul_comm]
  rw[e1,e2]
  omega
theorem qY {l:List Nat} (h:Lmb l) {k v:Nat} (hv:v<4294967296):Lmb (l.set k v):=fun a ha=>by
 rcases List.mem_or_eq_of_mem_set ha with ha|rfl
 ·exact h a ha
 ·exact hv
theorem oU (n:Nat):natV (List.replicate n 0)=0:=by induction n with
 |zero=>rfl
 |succ n ih=>simp[List.replicate_succ,natV,ih]
theorem bS {l:List Nat} {i a:Nat} (h:l[i]?=some a):natV (l.take (i+1))=natV (l.take i)+a*4294967296^i:=by
 obtain⟨h1,rfl⟩:=List.getElem?_eq_some_iff.1 h
 rw[List.take_succ_eq_append_getElem h1,fP,List.length_take,Nat.min_eq_left (by omega)]
 simp[natV,Nat.mul_comm]
theorem iV (n:Nat):List.replicate n [AV.p (.raw (.int .u32 0))]=lc fU (List.replicate n 0):=by simp[lc,fU]
theorem dy (l:List Nat) (k v:Nat):(lc fU l).set k [AV.p (.raw (.int .u32 (v:Int)))]=lc fU (l.set k v):=by simp[lc,fU,List.map_set]
structure xV (A B:List Nat) where
 i:Nat
 O:List Nat
 hi:i<=A.length
 len:O.length=A.length+B.length
 lmb:Lmb O
 val:natV O=natV (A.take i)*natV B
 zero: ∀k,i+B.length<=k->k<A.length+B.length->O[k]?=some 0
structure Af (A B:List Nat) (i a:Nat) where
 j:Nat
 O:List Nat
 c:Nat
 hj:j<=B.length
 len:O.length=A.length+B.length
 lmb:Lmb O
 hc:c<4294967296
 val:natV O+c*4294967296^(i+j)=natV (A.take i)*natV B+a*natV (B.take j)*4294967296^i
 zero: ∀k,i+B.length<=k->k<A.length+B.length->O[k]?=some 0
theorem j1 {a b:Nat} (ha:a<4294967296) (hb:b<4294967296):a*b<=18446744065119617025:=by
 have:a*b<=4294967295*4294967295:=Nat.mul_le_mul (by omega) (by omega)
 omega
theorem qp {A B:List Nat} {i a:Nat} (g:Af A B i a) {y o:Nat} (hy:B[g.j]?=some y) (ho:g.O[i+g.j]?=some o) (hi:i<A.length) (ha:a<4294967296) (hy':y<4294967296):
  ∃g':Af A B i a,g'.j=g.j+1/\g'.O=g.O.set (i+g.j) ((g.c+(a*y+o))%4294967296)/\g'.c=(g.c+(a*y+o))/4294967296:=by
 have hjl:g.j<B.length:=(List.getElem?_eq_some_iff.1 hy).1
 have ho':=ct g.lmb ho
 have hb:=j1 ha hy'
 have hc:=g.hc
 refine⟨⟨g.j+1,g.O.set (i+g.j) ((g.c+(a*y+o))%4294967296),(g.c+(a*y+o))/4294967296,hjl,by simp[g.len],qY g.lmb (Nat.mod_lt _ (by omega)),?_,?_,fun k h1 h2=>?_⟩,rfl,rfl,rfl⟩
 ·generalize a*y=p at*
  omega
 ·have h1:=lT g.O (i+g.j) ((g.c+(a*y+o))%4294967296) o ho
  have h2:=bS hy
  have h3:=g.val
  rw[h2,show i+(g.j+1)=i+g.j+1 by omega,Nat.pow_succ,Nat.mul_add a,Nat.add_mul]
  have e1:a*(y*4294967296^g.j)*4294967296^i=a*y*4294967296^(i+g.j):=by
   rw[<- Nat.mul_assoc,Nat.mul_assoc,<- Nat.pow_add,Nat.add_comm g.j i]
  rw[e1]
  generalize 4294967296^(i+g.j)=X at*
  generalize a*y=p at*
  have e2:(g.c+(p+o))=(g.c+(p+o))%4294967296+4294967296*((g.c+(p+o))/4294967296):=(Nat.mod_add_div _ _).symm
  generalize hr:(g.c+(p+o))%4294967296=r at*
  generalize hq:(g.c+(p+o))/4294967296=q at*
  generalize natV (g.O.set (i+g.j) r)=N at*
  generalize natV g.O=M at*
  generalize natV (A.take i)*natV B=U at*
  generalize a*natV (B.take g.j)*4294967296^i=V at*
  -- N + o X = M + r X, M + c X = U + V, c + p + o = r + B q
  have e3:g.c*X+(p*X+o*X)=r*X+q*(X*4294967296):=by
   have:=congrArg (· *X) e2
   simp only[Nat.add_mul]at this
   rw[this]
   congr 1
   rw[Nat.mul_comm 4294967296 q,Nat.mul_assoc,Nat.mul_comm 4294967296 X]
  omega
 ·rw[List.getElem?_set_ne (by omega)]
  exact g.zero k h1 h2
theorem qE {A B:List Nat} {i a:Nat} (hA:A[i]?=some a) (g:Af A B i a) (hj: ¬g.j<B.length): ∃g':xV A B,g'.i=i+1/\g'.O=g.O.set (i+B.length) g.c:=by
 have hi:=(List.getElem?_eq_some_iff.1 hA).1
 have hjl:=g.hj
 have e:g.j=B.length:=by omega
 have hz:=g.zero (i+B.length) (Nat.le_refl _) (by omega)
 refine⟨⟨i+1,g.O.set (i+B.length) g.c,hi,by simp[g.len],qY g.lmb g.hc,?_,fun k h1 h2=>?_⟩,rfl,rfl⟩
 ·have h1:=lT g.O (i+B.length) g.c 0 hz
  have h2:=g.val
  rw[e,List.take_length]at h2
  rw[bS hA,Nat.add_mul]
  have e1:a*4294967296^i*natV B=a*natV B*4294967296^i:=by rw[Nat.mul_assoc,Nat.mul_comm (4294967296^i),<- Nat.mul_assoc]
  rw[e1]
  omega
 ·rw[List.getElem?_set_ne (by omega)]
  exact g.zero k (by omega) h2
theorem wN (a b:Int):eY (!(decide (a<0)==decide (b<0))) (a.natAbs*b.natAbs)=a*b:=by
 have h:=Int.natAbs_mul a b
 unfold eY
 rcases Int.lt_or_le a 0 with ha|ha<;>rcases Int.lt_or_le b 0 with hb|hb
 ·have:0<a*b:=Int.mul_pos_of_neg_of_neg ha hb
  simp[ha,hb];omega
 ·have:a*b<=0:=Int.mul_nonpos_of_nonpos_of_nonneg (by omega) hb
  have hb': ¬b<0:=by omega
  simp[ha,hb'];omega
 ·have:a*b<=0:=Int.mul_nonpos_of_nonneg_of_nonpos ha (by omega)
  have ha': ¬a<0:=by omega
  simp[ha',hb];omega
 ·have:0<=a*b:=Int.mul_nonneg ha hb
  have ha': ¬a<0:=by omega
  have hb': ¬b<0:=by omega
  simp[ha',hb'];omega
abbrev sh (neg:Bool) (A:List Nat):List OObj:=[⟨53,2,[[.p (.raw (.bool neg)),.p (.sl (ls fU A))]]⟩]
abbrev pG:List OObj:=[⟨53,2,[[.raw (.bool false),.raw (.slice none 0 0)]]⟩]
theorem Du (a b:Int) (ha:Bh a) (hb:Bh b):CallC Tryz.prog 126 [tZ a,tZ b] ⟨[],tZ (a*b)⟩:=by
 have la:=ha.len
 have lb:=hb.len
 have hlA:=aY a.natAbs
 have hlB:=aY b.natAbs
 have vA:=aG a.natAbs
 have vB:=aG b.natAbs
 refine aC Tryz.func126 rfl (by kernel_rfl) ?_;rw[Tryz.ntmps126]
 (refine aa [] fun K hK=>?_;simp(disch:=omega) only[kc,ab,Nat.reduceAdd,tZ,List.replicate,cd,aT,aI,cellsOf,isPure,bL,au,Nat.reduceEqDiff,bs,aZ,Value.oneCell',cH];apply hK)
 generalize aK a.natAbs=A at*
 generalize aK b.natAbs=B at*
 have e0:((A.length:Int)+(B.length:Int)).toNat=A.length+B.length:=by omega
 (refine aa [] fun K hK=>?_;simp(disch:=omega) only[kc,ab,Nat.reduceAdd,aw,ao,bH,cb,au,Nat.reduceEqDiff,cH,ax,bW,aq,ah,aD,aj,ai,bC,ca,aT,aI,cp,aO,dz,Value.oneCell',and_true,e0,iV,bL];apply hK)
 (refine ae (aa [] fun K hK=>?_);simp(disch:=omega) only[kc,ab,Nat.reduceAdd,aw,ao,bH,cb,au,Nat.reduceEqDiff,cH,ax,bW,aq,ah,aD,ac,Value.oneCell'];apply hK)
 refine bT (G:=xV A B) (fun g=>⟨[jk,jk,.one (.ptr 2 0 0 0),.one (.ptr 3 0 0 0),.one (.ptr 4 0 0 0),.one (.sl 18 0 0 (A.length+B.length)),jk,jk,jk,jk,jk,jk,jk,jk,jk,jk,jk,jk,jk,jk,bO A,.raw (.int .i64 (A.length:Int)),.raw (.int .i64 (g.i:Int)),jk,jk,jk,jk,jk,jk,jk,jk,jk,jk,jk,jk,jk,jk,jk,jk,jk,jk,jk,jk,jk,jk,jk,jk,jk,jk,jk,jk,jk,jk,jk,jk,jk,jk,jk,jk,jk,jk,jk,jk,jk,jk,jk,jk,jk,jk,jk,jk,jk,jk,jk,jk,jk,jk],Hm [(2,sh (decide (a<0)) A),(3,sh (decide (b<0)) B),(4,pG),(18,[⟨118,1,lc fU g.O⟩])]⟩) (fun g=>A.length-g.i) ⟨0,List.replicate (A.length+B.length) 0,by omega,by simp,fun x hx=>by simp at hx;omega,by simp[oU,natV],fun k h1 h2=>by rw[List.getElem?_replicate,if_pos h2]⟩ ?_ ?_
 ·refine am ⟨rfl,rfl,rfl,rfl,trivial⟩ ?_
  simp[cu,bD,bA]
 ·rintro⟨i,O,hi,len,lmb,val,zero⟩
  simp only
  by_cases hm:i<A.length
  ·obtain⟨x,hx⟩:=getElem?_of_lt hm
   have hx':=ct hlA hx
   (refine aa [] fun K hK=>?_;simp(disch:=omega) only[kc,ab,bO,Hm,aj,ai,bE];apply hK)
   refine ae (af rfl (fun _=>ay ?_) (fun h=>by simp at h<;>omega))
   refine ae (aU ?_)
   (refine aa [] fun K hK=>?_;simp(disch:=omega) only[kc,ab,Nat.reduceAdd,ag,ao,an,ah,bI,hx,fU,aO,ax,bu];apply hK)
   (refine aa [] fun K hK=>?_;simp(disch:=omega) only[kc,ab,ac,Value.oneCell'];apply hK)
   (refine ae (aa [] fun K hK=>?_);simp(disch:=omega) only[kc,ab,Nat.reduceAdd,aw,ao,bH,cb,Nat.reduceEqDiff,cH,ax,bW,aq,ah,aD,ac,Value.oneCell'];apply hK)
   refine bT (G:=Af A B i x) (fun g=>⟨[jk,jk,.one (.ptr 2 0 0 0),.one (.ptr 3 0 0 0),.one (.ptr 4 0 0 0),.one (.sl 18 0 0 (A.length+B.length)),.raw (.int .i64 (i:Int)),.raw (.int .u32 (x:Int)),.raw (.int .u64 (g.c:Int)),jk,jk,jk,jk,jk,jk,jk,jk,jk,jk,jk,bO A,.raw (.int .i64 (A.length:Int)),.raw (.int .i64 (i:Int)),jk,jk,jk,jk,jk,bO B,.raw (.int .i64 (B.length:Int)),.raw (.int .i64 (g.j:Int)),jk,jk,jk,jk,jk,jk,jk,jk,jk,jk,jk,jk,jk,jk,jk,jk,jk,jk,jk,jk,jk,jk,jk,jk,jk,jk,jk,jk,jk,jk,jk,jk,jk,jk,jk,jk,jk,jk,jk,jk,jk,jk,jk,jk,jk,jk],Hm [(2,sh (decide (a<0)) A),(3,sh (decide (b<0)) B),(4,pG),(18,[⟨118,1,lc fU g.O⟩])]⟩) (fun g=>B.length-g.j) ⟨0,O,0,by omega,len,lmb,by omega,by simpa[natV] using val,zero⟩ ?_ ?_
   ·refine am ⟨rfl,rfl,rfl,rfl,trivial⟩ ?_
    simp[cu,bD,bA]
   ·intro g
    by_cases hn:g.j<B.length
    ·obtain⟨y,hy⟩:=getElem?_of_lt hn
     have hy':=ct hlB hy
     have hlen:=g.len
     obtain⟨o,ho⟩:=getElem?_of_lt (show i+g.j<g.O.length by omega)
     have ho':=ct g.lmb ho
     have hb:=j1 hx' hy'
     have hgc:=g.hc
     obtain⟨g',q1,q2,q3⟩:=qp g hy ho hm hx' hy'
     have e1:((i:Int)+(g.j:Int)).toNat=i+g.j:=by omega
     have e2:(x:Int)*(y:Int)=((x*y:Nat):Int):=by simp
     generalize hp:x*y=p at*
     have e3:IntKind.u32.wrap ((g.c:Int)+((p:Int)+(o:Int)))=(((g.c+(p+o))%4294967296:Nat):Int):=by rw[<- nB];congr 1<;>omega
     have e4:Int.fdiv ((g.c:Int)+((p:Int)+(o:Int))) (2^(min 32 IntKind.u64.bits))=(((g.c+(p+o))/4294967296:Nat):Int):=by rw[<- ya];congr 1<;>omega
     (refine aa [] fun K hK=>?_;simp(disch:=omega) only[kc,ab,bO,Hm,aj,ai,bE];apply hK)
     refine ae (af rfl (fun _=>ay ?_) (fun h=>by simp at h<;>omega))
     refine ae (aU ?_)
     (refine aa [] fun K hK=>?_;simp(disch:=omega) only[kc,ab,Nat.reduceAdd,ag,ao,an,ah,bI,hy,fU,aO,ax,bu];apply hK)
     (refine aa [] fun K hK=>?_;simp(disch:=omega) only[kc,ab,Nat.reduceAdd,bf,aj,Tryz.underlying118,bP,cS,ai,e2,bC,ag,ao,an,e1,ah,Nat.reduceEqDiff,cH,aO,bL,b8,fU,ho,ax,bu];apply hK)
     (refine aa [] fun K hK=>?_;simp(disch:=omega) only[kc,ab,Nat.reduceAdd,aj,ai,bC,bf,Tryz.underlying88,bZ,e3,ag,ao,an,e1,ah,Nat.reduceEqDiff,cH,aO,bL,aB,dr,bN,b8,fU,ho,cellsOf,Nat.le_refl,isPure,putCells,dy,aH,aL];apply hK)
     ((refine aX [] [] (by simp) fun K hK=>?_);simp(disch:=omega) only[kc,ab,Nat.reduceAdd,aj,ac,Value.oneCell',ai,Int.reduceLE,Int.reduceToNat,e4];apply hK)
     show bX _ _ _ _
     ((refine aX [] [] (by simp) fun K hK=>?_);simp(disch:=omega) only[kc,ab,aj,ac,Value.oneCell',ai,bC];apply hK)
     refine⟨g',by omega,am ⟨rfl,rfl,rfl,by rw[q2];rfl,trivial⟩ ?_⟩
     simp[cu,bD,bA,q1,q3]
    ·have hgj:=g.hj
     have hgc:=g.hc
     have hgl:=g.len
     obtain⟨g',q1,q2⟩:=qE hx g hn
     have e1:((i:Int)+(B.length:Int)).toNat=i+B.length:=by omega
     have e3:IntKind.u32.wrap (g.c:Int)=(g.c:Int):=by rw[nB];omega
     (refine aa [] fun K hK=>?_;simp(disch:=omega) only[kc,ab,bO,Hm,aj,ai,bj];apply hK)
     refine ae (af rfl (fun h=>by simp at h<;>omega) (fun _=>bF ?_))
     show bX _ _ _ _
     have hz:=g.zero (i+B.length) (Nat.le_refl _) (by omega)
     ((refine aX [] [] (by simp) fun K hK=>?_);simp(disch:=omega) only[kc,ab,Nat.reduceAdd,aw,ao,bH,cb,Nat.reduceEqDiff,cH,ax,bW,aq,ah,aD,aj,ai,bC,bf,Tryz.underlying88,bZ,e3,ag,an,e1,aO,bL,aB,dr,bN,b8,fU,hz,cellsOf,Nat.le_refl,isPure,putCells,dy,aH,aL];apply hK)
     show bX _ _ _ _
     ((refine aX [] [] (by simp) fun K hK=>?_);simp(disch:=omega) only[kc,ab,aj,ac,Value.oneCell',ai,bC];apply hK)
     refine⟨g',by omega,am ⟨rfl,rfl,rfl,by rw[q2];rfl,trivial⟩ ?_⟩
     simp[cu,bD,bA,q1]
  ·have hfin:natV O=a.natAbs*b.natAbs:=by
    have:i=A.length:=by omega
    rw[val,this,List.take_length,vA,vB]
   have h4:=gK (!(decide (a<0)==decide (b<0))) O lmb (by omega)
   rw[hfin,wN]at h4
   (refine aa [] fun K hK=>?_;simp(disch:=omega) only[kc,ab,bO,Hm,aj,ai,bj];apply hK)
   refine ae (af rfl (fun h=>by simp at h<;>omega) (fun _=>bF ?_))
   show bX _ _ _ _
   refine bX.weak (d4 18 (dL rfl)) ?_
   have eT:List.take (A.length+B.length) O=O:=List.take_of_length_le (by omega)
   simp(disch:=omega) only[kc,tZ,gR,eX,Nat.reduceEqDiff,bL,cH,ew,eT,d8]
   (refine aa [⟨6,_,_,_,h4⟩] fun K hK=>?_;simp(disch:=omega) only[kc,bO,tZ,ar.a,ab,Nat.reduceAdd,aw,ao,bJ,cC,Nat.add_zero,au,Nat.reduceEqDiff,cH,ax,cg,aj,ai,dK,ak,aT,aI,List.find?_cons,aQ,bo,CallRes.plain,aR,aV,az,noRefTV,ap,aS,aP,aB,dr,bN,aF,cellsOf,Nat.le_refl,isPure,bL,putCells,aH,aL];apply hK)
   (refine aE ⟨.inr rfl,aJ rfl ?_ rfl⟩;simp(disch:=omega) only[kc,bK,Tryz.results126,aN,au,Nat.reduceEqDiff,cH,ax,aF,aW,Nat.reduceAdd,Nat.le_refl])
def dblL:List Nat->Nat->List Nat
 |[],b=>[b]
 |x::l,b=>(2*x+b)%4294967296::dblL l (x/2147483648)
theorem qV: ∀(l:List Nat) (b:Nat),Lmb l->b<=1->natV (dblL l b)=2*natV l+b
 |[],b,_,_=>by simp[dblL,natV]
 |x::l,b,hl,hb=>by
  rw[dB]at hl
  have hx:=hl.1
  simp only[dblL,natV,qV l (x/2147483648) hl.2 (by omega)];omega
theorem tB: ∀(l:List Nat) (b:Nat),Lmb l->b<=1->Lmb (dblL l b)
 |[],b,_,hb=>by simp[dblL,Lmb];omega
 |x::l,b,hl,hb=>by
  rw[dB]at hl
  have hx:=hl.1
  rw[dblL,dB]
  exact⟨Nat.mod_lt _ (by omega),tB l _ hl.2 (by omega)⟩
theorem tP: ∀(l:List Nat) (b:Nat),(dblL l b).length=l.length+1
 |[],b=>rfl
 |x::l,b=>by simp[dblL,tP l]
theorem l9 (a b n:Nat) (h:b<2^n):(a*2^n)|||b=a*2^n+b:=by
 have:=Nat.shiftLeft_add_eq_or_of_lt h a
 rw[Nat.shiftLeft_eq]at this
 exact this.symm
theorem nr (a b n:Nat) (h:b<2^n):b|||(a*2^n)=a*2^n+b:=by rw[Nat.or_comm,l9 a b n h]
theorem E5 (a b:Nat) (ha:a<4294967296) (hb:b<4294967296):IntKind.u32.wrap (((BitVec.ofInt IntKind.u32.bits (a:Int)|||BitVec.ofInt IntKind.u32.bits (b:Int)).toNat:Nat):Int)=((a|||b:Nat):Int):=by
 rw[nB]
 show(((BitVec.ofInt 32 (a:Int)|||BitVec.ofInt 32 (b:Int)).toNat%4294967296:Nat):Int)=_
 rw[BitVec.toNat_or]
 have e: ∀x:Nat,x<4294967296->(BitVec.ofInt 32 (x:Int)).toNat=x:=fun x hx=>by rw[BitVec.toNat_ofInt];show((x:Int)%4294967296).toNat=x;omega
 rw[e a ha,e b hb,Nat.mod_eq_of_lt]
 exact Nat.or_lt_two_pow (n:=32) ha hb
theorem rJ (a b:Nat) (ha:a<18446744073709551616) (hb:b<18446744073709551616):IntKind.u64.wrap (((BitVec.ofInt IntKind.u64.bits (a:Int)|||BitVec.ofInt IntKind.u64.bits (b:Int)).toNat:Nat):Int)=((a|||b:Nat):Int):=by
 rw[IntKind.wrap_u64]
 show((BitVec.ofInt 64 (a:Int)|||BitVec.ofInt 64 (b:Int)).toNat:Int)%_=_
 rw[BitVec.toNat_or]
 have e: ∀x:Nat,x<18446744073709551616->(BitVec.ofInt 64 (x:Int)).toNat=x:=fun x hx=>by rw[BitVec.toNat_ofInt];show((x:Int)%18446744073709551616).toNat=x;omega
 rw[e a ha,e b hb]
 have:=Nat.or_lt_two_pow (n:=64) ha hb
 generalize a|||b=c at*
 omega
theorem EL (a b:Nat) (ha:a<4294967296) (hb:b<4294967296):IntKind.u32.wrap (((BitVec.ofInt IntKind.u32.bits (a:Int)&&&BitVec.ofInt IntKind.u32.bits (b:Int)).toNat:Nat):Int)=((a&&&b:Nat):Int):=by
 rw[nB]
 show(((BitVec.ofInt 32 (a:Int)&&&BitVec.ofInt 32 (b:Int)).toNat%4294967296:Nat):Int)=_
 rw[BitVec.toNat_and]
 have e: ∀x:Nat,x<4294967296->(BitVec.ofInt 32 (x:Int)).toNat=x:=fun x hx=>by rw[BitVec.toNat_ofInt];show((x:Int)%4294967296).toNat=x;omega
 rw[e a ha,e b hb,Nat.mod_eq_of_lt]
 exact Nat.lt_of_le_of_lt Nat.and_le_left ha
structure Fd (l:List Nat) (b:Nat) where
 i:Nat
 o:List Nat
 c:Nat
 hi:i<=l.length
 hc:c<=1
 ho:o.length=i
 h:o++dblL (l.drop i) c=dblL l b
theorem Ax (l:List Nat) (b:Nat) (lm:Lmb l) (hb:b<=1) (bl:l.length<=1073741824):CallC Tryz.prog 165 [bO l,.raw (.int .u32 (b:Int))] ⟨[],bO (dblL l b)⟩:=by
 refine aC Tryz.func165 rfl (by kernel_rfl) ?_;rw[Tryz.ntmps165]
 (refine aa [] fun K hK=>?_;simp(disch:=omega) only[kc,ab,bO,Nat.reduceAdd,List.replicate,ac,Value.oneCell'];apply hK)
 (refine aa [] fun K hK=>?_;simp(disch:=omega) only[kc,ab,ac,Value.oneCell'];apply hK)
 (refine ae (aa [] fun K hK=>?_);simp(disch:=omega) only[kc,ab,Nat.reduceAdd,aq,ao,ah,aD,ac,Value.oneCell'];apply hK)
 refine bT (G:=Fd l b) (fun g=>⟨[bO l,.raw (.int .u32 (g.c:Int)),jk,jk,.raw (.slice none 0 0),.one (.sl 20 0 0 g.o.length),jk,jk,bO l,.raw (.int .i64 (l.length:Int)),.raw (.int .i64 (g.i:Int)),jk,jk,jk,jk,jk,jk,jk,jk,jk,jk,jk,jk,jk,jk,jk,jk,jk],Hm [(20,[⟨118,1,lc fU g.o⟩])]⟩) (fun g=>l.length-g.i) ⟨0,[],b,by omega,hb,rfl,rfl⟩ ?_ ?_
 ·refine(lC (k:=5) (d:=20) 118 1 (by omega) rfl rfl).trans (am ⟨rfl,trivial⟩ ?_)
  simp[cu,bD,bA]
 ·rintro⟨i,o,c,hi,hc,ho,h⟩
  simp only
  by_cases hm:i<l.length
  ·obtain⟨a,ha⟩:=getElem?_of_lt hm
   have ha':=ct lm ha
   have e1:IntKind.u32.wrap ((a:Int)*2^min 1 IntKind.u32.bits)=((2*a%4294967296:Nat):Int):=by
    rw[<- nB];congr 1;show(a:Int)*2=_;omega
   have e2:=E5 (2*a%4294967296) c (by omega) (by omega)
   have e3:(2*a%4294967296)|||c=(2*a+c)%4294967296:=by
    have:=l9 (a%2147483648) c 1 (by omega)
    rw[show 2*a%4294967296=a%2147483648*2^1 by omega,this];omega
   rw[e3]at e2
   have e4:Int.fdiv (a:Int) (2^(min 31 IntKind.u32.bits))=((a/2147483648:Nat):Int):=by
    show Int.fdiv (a:Int) 2147483648=_
    rw[Int.fdiv_eq_ediv_of_nonneg _ (by omega)];omega
   (refine aa [] fun K hK=>?_;simp(disch:=omega) only[kc,ab,bO,Hm,aj,ai,bE];apply hK)
   refine ae (af rfl (fun _=>ay ?_) (fun h=>by simp at h<;>omega))
   refine ae (aU ?_)
   (refine aa [] fun K hK=>?_;simp(disch:=omega) only[kc,ab,Nat.reduceAdd,ag,ao,an,ah,bI,ha,fU,aO,ax,bu];apply hK)
   (refine aa [] fun K hK=>?_;simp(disch:=omega) only[kc,ab,Nat.reduceAdd,aj,ac,Value.oneCell',ai,Int.reduceLE,Int.reduceToNat,e1,e2,co,aT,aI,ah,cp,aO,fW,cellsOf,isPure,Nat.reduceMul,Nat.reduceLeDiff,List.contains_nil,kW,bL,dE,l8,bN,newsOf,dz,gk,fu,fH,gN,and_true,d7,fK,f4,dr,aH,aL];apply hK)
   ((refine aX [] [] (by simp) fun K hK=>?_);simp(disch:=omega) only[kc,ab,Nat.reduceAdd,aj,ac,Value.oneCell',ai,Int.reduceLE,Int.reduceToNat,e4];apply hK)
   show bX _ _ _ _
   ((refine aX [] [] (by simp) fun K hK=>?_);simp(disch:=omega) only[kc,ab,aj,ac,Value.oneCell',ai,bC];apply hK)
   refine⟨⟨i+1,o++[(2*a+c)%4294967296],a/2147483648,by omega,by omega,by simp[ho],?_⟩,by simp only;omega,am ⟨rfl,trivial⟩ ?_⟩
   ·rw[<- h,dM ha,dblL,List.append_assoc];rfl
   ·simp[cu,bD,bA]
  ·(refine aa [] fun K hK=>?_;simp(disch:=omega) only[kc,ab,bO,Hm,aj,ai,bj];apply hK)
   refine ae (af rfl (fun h=>by simp at h<;>omega) (fun _=>bF ?_))
   show bX _ _ _ _
   (refine aa [] fun K hK=>?_;simp(disch:=omega) only[kc,ab,Nat.reduceAdd,co,aT,aI,ah,cp,aO,fW,cellsOf,isPure,Nat.reduceMul,Nat.reduceLeDiff,List.contains_nil,kW,bL,dE,l8,bN,newsOf,dz,gk,fu,fH,gN,and_true,d7,fK,f4,dr,aH,aL];apply hK)
   have hfin:dblL l b=o++[c]:=by rw[<- h,dA (by omega:l.length<=i),dblL]
   (refine aE ⟨.inr rfl,ot 20 (dL rfl) ?_ rfl⟩;simp(disch:=omega) only[kc,bK,Tryz.results165,aN,gR,eX,au,bL,ew,d8,bO])
   simp only[hfin]
   rw[List.take_of_length_le (by simp)]
structure EG (l:List Nat) where
 i:Nat
 u:Nat
 hi:i<=l.length/\i<=2
 hu:u=natV (l.take i)
theorem d6 {l:List Nat} (h:Lmb l) (k:Nat):natV (l.take k)<4294967296^k:=by
 have h1:Lmb (l.take k):=fun a ha=>h a (List.mem_of_mem_take ha)
 have h2:=eO h1
 exact Nat.lt_of_lt_of_le h2 (Nat.pow_le_pow_right (by omega) (by rw[List.length_take];omega))
theorem DD (l:List Nat) (lm:Lmb l) (bl:l.length<=1073741824):CallC Tryz.prog 110 [bO l] ⟨[],.raw (.int .u64 (natV (l.take 2):Nat))⟩:=by
 refine aC Tryz.func110 rfl (by kernel_rfl) ?_;rw[Tryz.ntmps110]
 (refine aa [] fun K hK=>?_;simp(disch:=omega) only[kc,ab,bO,List.replicate,ac,Value.oneCell'];apply hK)
 (refine aa [] fun K hK=>?_;simp(disch:=omega) only[kc,ab,ac,Value.oneCell'];apply hK)
 (refine ae (aa [] fun K hK=>?_);simp(disch:=omega) only[kc,ab,ac,Value.oneCell'];apply hK)
 refine bT (G:=EG l) (fun g=>⟨[bO l,jk,.raw (.int .u64 0),.raw (.int .u64 (g.u:Int)),.raw (.int .i64 (g.i:Int)),jk,jk,jk,jk,jk,jk,jk,jk,jk,jk,jk,jk,jk,jk,jk,jk,jk,jk,jk,jk,jk],Hm []⟩) (fun g=>l.length-g.i) ⟨0,0,⟨by omega,by omega⟩,rfl⟩ ?_ ?_
 ·refine am trivial ?_
  simp[cu,bD,bA]
 ·rintro⟨i,u,hi,hu⟩
  simp only
  have hlt:=d6 lm i
  rw[<- hu]at hlt
  by_cases hm:i<l.length/\i<2
  ·obtain⟨a,ha⟩:=getElem?_of_lt hm.1
   have ha':=ct lm ha
   have hm2:=hm.2
   have hm1:=hm.1
   have hu2:=bS ha
   rw[<- hu]at hu2
   (refine ae (aa [] fun K hK=>?_);simp(disch:=omega) only[kc,ab,Nat.reduceAdd,bO,Hm,aq,ao,ah,aD,aj,ai,bE,aA,ac,Value.oneCell',bL,aM];apply hK)
   refine af rfl (fun _=>ay ?_) (fun h=>by simp at h<;>omega)
   refine ae (aU ?_)
   have hi2:i=0\/i=1:=by omega
   rcases hi2 with rfl|rfl
   ·have e1:IntKind.u64.wrap ((a:Int)*2^min (32*((0:Nat):Int)).toNat IntKind.u64.bits)=(a:Int):=by
     rw[IntKind.wrap_u64];show((a:Int)*1)%_=_;omega
    have hu0:u=0:=by simpa[natV] using hu
    have e2:=rJ u a (by omega) (by omega)
    rw[hu0,Nat.zero_or,<- hu0]at e2
    ((refine aX [] [] (by simp) fun K hK=>?_);simp(disch:=omega) only[kc,ab,Nat.reduceAdd,ag,ao,an,ah,bI,ha,fU,aO,ax,bu,bf,aj,Tryz.underlying118,bP,cS,ac,Value.oneCell',ai,bC,e1,bL,e2];apply hK)
    show bX _ _ _ _
    ((refine aX [] [] (by simp) fun K hK=>?_);simp(disch:=omega) only[kc,ab,Nat.reduceAdd,aj,ac,Value.oneCell',ai,bC];apply hK)
    refine⟨⟨1,a,⟨by omega,by omega⟩,by rw[hu2,hu0];simp⟩,by simp only;omega,am trivial ?_⟩
    simp[cu,bD,bA]
   ·have e1:IntKind.u64.wrap ((a:Int)*2^min (32*((1:Nat):Int)).toNat IntKind.u64.bits)=((a*4294967296:Nat):Int):=by
     rw[IntKind.wrap_u64];show((a:Int)*4294967296)%_=_;omega
    simp only[Nat.pow_one]at hlt
    have e2:=rJ u (a*4294967296) (by omega) (by omega)
    rw[show a*4294967296=a*2^32 from rfl,nr _ _ _ hlt,show a*2^32=a*4294967296 from rfl]at e2
    ((refine aX [] [] (by simp) fun K hK=>?_);simp(disch:=omega) only[kc,ab,Nat.reduceAdd,ag,ao,an,ah,bI,ha,fU,aO,ax,bu,bf,aj,Tryz.underlying118,bP,cS,ac,Value.oneCell',ai,bC,e1,bL,e2];apply hK)
    show bX _ _ _ _
    ((refine aX [] [] (by simp) fun K hK=>?_);simp(disch:=omega) only[kc,ab,Nat.reduceAdd,aj,ac,Value.oneCell',ai,bC];apply hK)
    refine⟨⟨2,a*4294967296+u,⟨by omega,by omega⟩,by rw[hu2];omega⟩,by simp only;omega,am trivial ?_⟩
    simp[cu,bD,bA]
  ·have hfin:u=natV (l.take 2):=by
    rw[hu]
    by_cases h2:i=2
    ·rw[h2]
    ·rw[List.take_of_length_le (by omega),List.take_of_length_le (by omega)]
   rw[<- hfin]
   by_cases h3:i<l.length
   ·(refine ae (aa [] fun K hK=>?_);simp(disch:=omega) only[kc,ab,Nat.reduceAdd,bO,Hm,aq,ao,ah,aD,aj,ai,bE,aA,ac,Value.oneCell',bL,bj,aM];apply hK)
    refine af rfl (fun h=>by simp at h<;>omega) (fun _=>bF ?_)
    show bX _ _ _ _
    (refine aa [] fun K hK=>?_;simp(disch:=omega) only[kc,ab];apply hK)
    (refine aE ⟨.inr rfl,aJ rfl ?_ rfl⟩;simp(disch:=omega) only[bK,Tryz.results110,aN,List.getElem?_cons_succ,List.getElem?_cons_zero])
   ·(refine ae (aa [] fun K hK=>?_);simp(disch:=omega) only[kc,ab,Nat.reduceAdd,bO,Hm,aq,ao,ah,aD,aj,ai,bj,aA,ac,Value.oneCell',Option.map_none,aM];apply hK)
    refine af rfl (fun h=>by simp at h<;>omega) (fun _=>bF ?_)
    show bX _ _ _ _
    (refine aa [] fun K hK=>?_;simp(disch:=omega) only[kc,ab];apply hK)
    (refine aE ⟨.inr rfl,aJ rfl ?_ rfl⟩;simp(disch:=omega) only[bK,Tryz.results110,aN,List.getElem?_cons_succ,List.getElem?_cons_zero])
def mG (z:Int):TV:=if -9223372036854775808<=z/\z<=9223372036854775807 then .tup [(false,[.p (.raw (.int .i64 z))]),(false,[.p (.raw (.bool true))])]else .tup [(false,[.p (.raw (.int .i64 0))]),(false,[.p (.raw (.bool false))])]
theorem vD {n:Nat} (h:2<(aK n).length):18446744073709551616<=n:=by
 have h1:=oe (cw n) (by intro h0;rw[h0]at h;simp at h)
 rw[aG]at h1
 have h2:4294967296^2<=4294967296^((aK n).length-1):=Nat.pow_le_pow_right (by omega) (by omega)
 omega
theorem fN {n:Nat} (h:(aK n).length<=2):n<18446744073709551616:=by
 have h1:=eO (aY n)
 rw[aG]at h1
 have h2:4294967296^(aK n).length<=4294967296^2:=Nat.pow_le_pow_right (by omega) h
 omega
theorem kv: ∀{l:List Nat} {i x:Nat},Lmb l->l[i]?=some x->natV l/4294967296^i%4294967296=x
 |[],i,x,_,h=>by simp at h
 |a::l,0,x,hl,h=>by
  rw[dB]at hl
  simp at h
  subst h
  have:=hl.1
  simp only[natV,Nat.pow_zero]
  omega
 |a::l,i+1,x,hl,h=>by
  rw[dB]at hl
  have ha:=hl.1
  simp at h
  have:=kv hl.2 h
  rw[Nat.pow_succ,Nat.mul_comm,<- Nat.div_div_eq_div_mul]
  simp only[natV]
  rw[show(a+4294967296*natV l)/4294967296=natV l by omega]
  exact this
theorem Bb (i:Nat):4294967296^i=2^(32*i):=by rw[Nat.pow_mul]
theorem yj {a k x:Nat} (h:(aK a)[k/32]?=some x):x/2^(k%32)%2=a/2^k%2:=by
 have h1:=kv (aY a) h
 rw[aG,Bb]at h1
 rw[<- Nat.toNat_testBit,<- Nat.toNat_testBit,<- h1,show(4294967296:Nat)=2^32 from rfl,Nat.testBit_mod_two_pow,Nat.testBit_div_two_pow]
 rw[show k%32+32*(k/32)=k by omega]
 have:k%32<32:=by omega
 simp[this]
structure DL (a b n:Nat) where
 t:Nat
 O:List Nat
 ht:t<=32*n
 len:O.length=n
 lmb:Lmb O
 val:natV O=a/2^t/b*2^t
theorem ES (a k:Nat):a/2^k=2*(a/2^(k+1))+a/2^k%2:=by
 rw[Nat.pow_succ,<- Nat.div_div_eq_div_mul];omega
theorem Au {a b k:Nat} (hb:0<b) (h:2*(a/2^(k+1)%b)+a/2^k%2<b):a/2^k/b=2*(a/2^(k+1)/b)/\a/2^k%b=2*(a/2^(k+1)%b)+a/2^k%2:=by
 have h1:=ES a k
 have h2:=Nat.div_add_mod (a/2^(k+1)) b
 generalize a/2^(k+1)=X at*
 generalize a/2^k%2=e at*
 generalize X%b=r at*
 generalize X/b=q at*
 have h3:a/2^k=b*(2*q)+(2*r+e):=by rw[h1,<- h2,Nat.mul_left_comm b 2 q];omega
 rw[h3]
 exact⟨by rw[Nat.mul_add_div hb,Nat.div_eq_of_lt h,Nat.add_zero],by rw[Nat.mul_add_mod,Nat.mod_eq_of_lt h]⟩
theorem zF {a b k:Nat} (hb:0<b) (h:b<=2*(a/2^(k+1)%b)+a/2^k%2):a/2^k/b=2*(a/2^(k+1)/b)+1/\a/2^k%b=2*(a/2^(k+1)%b)+a/2^k%2-b:=by
 have h1:=ES a k
 have h2:=Nat.div_add_mod (a/2^(k+1)) b
 have hr:a/2^(k+1)%b<b:=Nat.mod_lt _ hb
 have he:a/2^k%2<2:=Nat.mod_lt _ (by omega)
 generalize a/2^(k+1)=X at*
 generalize a/2^k%2=e at*
 generalize X%b=r at*
 generalize X/b=q at*
 have h3:a/2^k=b*(2*q+1)+(2*r+e-b):=by have:=Nat.mul_left_comm b 2 q;rw[h1,<- h2,Nat.mul_add b (2*q) 1,Nat.mul_one];omega
 have h4:2*r+e-b<b:=by omega
 rw[h3]
 exact⟨by rw[Nat.mul_add_div hb,Nat.div_eq_of_lt h4,Nat.add_zero],by rw[Nat.mul_add_mod,Nat.mod_eq_of_lt h4]⟩
theorem C8 {a b n k:Nat} {O:List Nat} (hb:0<b) (ht:k+1<=32*n) (len:O.length=n) (lmb:Lmb O) (val:natV O=a/2^(k+1)/b*2^(k+1)) (h:2*(a/2^(k+1)%b)+a/2^k%2<b): ∃g:DL a b n,g.t=k/\g.O=O:=
 ⟨⟨k,O,by omega,len,lmb,by rw[val,(Au hb h).1,Nat.pow_succ,Nat.mul_comm 2,Nat.mul_assoc,Nat.mul_comm 2]⟩,rfl,rfl⟩
theorem CI {a b n k x:Nat} {O:List Nat} (hb:0<b) (ht:k+1<=32*n) (len:O.length=n) (lmb:Lmb O) (val:natV O=a/2^(k+1)/b*2^(k+1)) (h:b<=2*(a/2^(k+1)%b)+a/2^k%2) (hx:O[k/32]?=some x): ∃g:DL a b n,g.t=k/\g.O=O.set (k/32) (x|||2^(k%32)):=by
 have hx':=ct lmb hx
 have hj:k%32<32:=Nat.mod_lt _ (by omega)
 have hor:x|||2^(k%32)<4294967296:=Nat.or_lt_two_pow (n:=32) hx' (Nat.pow_lt_pow_right (by omega) hj)
 refine⟨⟨k,O.set (k/32) (x|||2^(k%32)),by omega,by simp[len],qY lmb hor,?_⟩,rfl,rfl⟩
 have h1:=kv lmb hx
 have h2:=lT O (k/32) (x|||2^(k%32)) x hx
 have ek:2^(k+1)=2^(32*(k/32))*2^(k%32+1):=by rw[<- Nat.pow_add];congr 1;omega
 rw[Bb]at h1 h2
 rw[(zF hb h).1]
 generalize a/2^(k+1)/b=q at*
 have h3:x=q%2^(31-k%32)*2^(k%32+1):=by
  rw[<- h1,val,ek,Nat.mul_comm (2^(32*(k/32))),<- Nat.mul_assoc,Nat.mul_div_cancel _ (Nat.pow_pos (by omega))]
  rw[show(4294967296:Nat)=2^(31-k%32)*2^(k%32+1) by rw[<- Nat.pow_add,show 31-k%32+(k%32+1)=32 by omega],Nat.mul_mod_mul_right]
 have h4:x|||2^(k%32)=x+2^(k%32):=by
  have:=l9 (q%2^(31-k%32)) (2^(k%32)) (k%32+1) (Nat.pow_lt_pow_right (by omega) (by omega))
  rw[<- h3]at this
  exact this
 rw[h4]at h2⊢
 rw[Nat.add_mul,<- Nat.pow_add,show k%32+32*(k/32)=k by omega,val]at h2
 have h5:(2*q+1)*2^k=q*2^(k+1)+2^k:=by rw[Nat.add_mul,Nat.one_mul,Nat.mul_comm 2 q,Nat.mul_assoc,Nat.mul_comm 2 (2^k),<- Nat.pow_succ]
 rw[h5]
 generalize natV (O.set (k/32) (x+2^(k%32)))=N at*
 generalize x*2^(32*(k/32))=U at*
 generalize q*2^(k+1)=V at*
 generalize 2^k=W at*
 omega
theorem qP {a n:Nat} (h:(aK a).length=n):a/2^(32*n)=0:=by
 have:=eO (aY a)
 rw[aG,Bb,h]at this
 exact Nat.div_eq_of_lt this
end Go.Proofs.YtpgghglbpcabkaaGreat
