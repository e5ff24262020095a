/-
  Part 12 of a proof (walks and plain facts).
-/
import Derived.Test.YtfgeomlagfomgaaGreatDoorR10
set_option linter.all false
set_option maxRecDepth 100000
set_option maxHeartbeats 64000000
open Nat renaming reduceAdd → aa
open Nat renaming reduceEqDiff → ab
open List renaming replicate → ae
open Nat renaming reduceBEq → af
open Nat renaming reduceLeDiff → ah
open Int renaming reduceToNat → am
namespace Go.Proofs.YtfgeomlagfomgaaGreatDoor
open Go.RowKit
theorem DI (l m:List Nat) (ll:Lmb l) (lm:Lmb m) (cl:oE l) (cm:oE m) (bl:l.length<=1073741824) (bm:m.length<=1073741824):
  CallC Tryz.prog 60 [bA l,bA m] ⟨[],.raw (.int .i64 (f4 (natV l) (natV m)))⟩:=by
 rcases Nat.lt_trichotomy l.length m.length with hlt|heq|hgt
 ·rw[nF (iS ll cm hlt)];refine aI Tryz.func60 rfl (by kernel_rfl) ?_;rw[Tryz.ntmps60];refine aC fun _ K=>?_;simp only[kd,bA,aa,ae];apply K
  refine aD (aC fun _ K=>?_);simp(disch:=omega) only[kd,aa];apply K;refine aS rfl ?_;refine aD (aC fun _ K=>?_);simp(disch:=omega) only[kd,aa];apply K;refine aS rfl ?_;refine aC fun _ K=>?_;simp only[kd];apply K
  (refine aH ⟨.inr rfl,aG rfl ?_ rfl⟩;simp(disch:=omega) only[kd,Tryz.results60])
 ·refine aI Tryz.func60 rfl (by kernel_rfl) ?_;rw[Tryz.ntmps60];refine aC fun _ K=>?_;simp only[kd,bA,aa,ae];apply K
  refine aD (aC fun _ K=>?_);simp(disch:=omega) only[kd,aa];apply K;refine aN rfl (aK ?_);show bf _ _ _ _;refine aD (aC fun _ K=>?_);simp(disch:=omega) only[kd,aa,aO];apply K;refine aT (G:={k:Nat//k<=l.length/\l.drop k=m.drop k}) (fun k=>⟨(bA l::bA m::jk::jk::.raw (.int .i64 0)::.raw (.int .i64 ((k.1:Int)-1))::j16 (j16 (jk::jk::jk::[]))),Hm []⟩) (fun k=>k.1) ⟨l.length,Nat.le_refl _,by rw[List.drop_length,heq,List.drop_length]⟩ ?_ ?_
  ·refine aE trivial ?_;simp[wk]
  rintro⟨k,hk,hd⟩;simp only;by_cases h0:0<k
  ·obtain⟨a,ha⟩:=getElem?_of_lt (l:=l) (k:=k-1) (by omega);obtain⟨b,hb⟩:=getElem?_of_lt (l:=m) (k:=k-1) (by omega);have e1:((k:Int)-1).toNat=k-1:=by omega
   have hd':l.drop (k-1+1)=m.drop (k-1+1):=by rw[show k-1+1=k by omega];exact hd
   refine aD (aC fun _ K=>?_);simp(disch:=omega) only[kd,bA];apply K;refine aS rfl (aK ?_);refine aD (aJ ?_);refine b9 aW (by kernel_rfl) fun _ K=>?_;simp(disch:=omega) only[kd,aa,e1,ha,hb];apply K
   rcases Nat.lt_trichotomy a b with hab|hab|hab
   ·rw[nF (lT ll ha hb hd' hab)];refine bP rfl (fun _=>?_) (fun h=>by simp at h<;>omega);refine aD (b9 aW (by kernel_rfl) fun _ K=>?_);simp(disch:=omega) only[kd,aa,e1,ha,hb];apply K;refine aS rfl ?_;refine aC fun _ K=>?_;simp only[kd];apply K
    (refine aH ⟨.inr rfl,aG rfl ?_ rfl⟩;simp(disch:=omega) only[kd,Tryz.results60])
   ·subst hab;refine bP rfl (fun h=>by simp at h<;>omega) (fun _=>aK ?_);show bf _ _ _ _;refine aL fun _ K=>?_;simp(disch:=omega) only[kd,aa,aO];apply K
    refine⟨⟨k-1,by omega,wD ha hb hd'⟩,by simp only;omega,aE trivial ?_⟩;have e2:((k-1:Nat):Int)=(k:Int)-1:=by omega
    simp[wk,e2]
   rw[sj (lT lm hb ha hd'.symm hab)];refine bP rfl (fun _=>?_) (fun h=>by simp at h<;>omega);refine aD (b9 aW (by kernel_rfl) fun _ K=>?_);simp(disch:=omega) only[kd,aa,e1,ha,hb];apply K;refine aN rfl (aK ?_);show bf _ _ _ _;refine aC fun _ K=>?_;simp only[kd];apply K
   (refine aH ⟨.inr rfl,aG rfl ?_ rfl⟩;simp(disch:=omega) only[kd,Tryz.results60])
  have hk0:k=0:=by omega
  subst hk0;have hlm:l=m:=by simpa using hd
  rw[show f4 (natV l) (natV m)=0 by rw[hlm];simp[f4]];refine aD (aC fun _ K=>?_);simp(disch:=omega) only[kd,bA];apply K;refine aN rfl (bE ?_);show bf _ _ _ _;refine aC fun _ K=>?_;simp only[kd];apply K
  (refine aH ⟨.inr rfl,aG rfl ?_ rfl⟩;simp(disch:=omega) only[kd,Tryz.results60])
 rw[sj (iS lm cl hgt)];refine aI Tryz.func60 rfl (by kernel_rfl) ?_;rw[Tryz.ntmps60];refine aC fun _ K=>?_;simp only[kd,bA,aa,ae];apply K
 refine aD (aC fun _ K=>?_);simp(disch:=omega) only[kd,aa];apply K;refine aS rfl ?_;refine aD (aC fun _ K=>?_);simp(disch:=omega) only[kd,aa];apply K;refine aN rfl (aK ?_);show bf _ _ _ _;refine aC fun _ K=>?_;simp only[kd];apply K
 (refine aH ⟨.inr rfl,aG rfl ?_ rfl⟩;simp(disch:=omega) only[kd,Tryz.results60])
def oy (a b:Int):Int:=if a<b then -1 else if a=b then 0 else 1
theorem qk (z:Int): -1<=sg z/\sg z<=1:=by unfold sg;split<;>(try split)<;>omega
theorem tD (a b:Nat): -1<=f4 a b/\f4 a b<=1:=by unfold f4;split<;>(try split)<;>omega
theorem DH {a b:Int} (h:sg a≠sg b):oy a b=if sg a<sg b then -1 else 1:=by
 unfold sg oy at*
 (repeat' split at*)<;>omega
theorem DG {a b:Int} (h:sg a=sg b):oy a b=sg a*f4 a.natAbs b.natAbs:=by
 unfold sg oy f4 at*
 (repeat' split at*)<;>omega
theorem sS (a b:Int) (ha:Bg a) (hb:Bg b):CallC Tryz.prog 24 [tZ a,tZ b] ⟨[],.raw (.int .i64 (oy a b))⟩:=by
 have h1:=ng a ha;have h2:=ng b hb;have t1:=i7 (aQ a.natAbs) ha.len;have t2:=i7 (aQ b.natAbs) hb.len;rw[fY]at t1 t2;have h3:=DI (aQ a.natAbs) (aQ b.natAbs) (aV _) (aV _) (ce _) (ce _) ha.len hb.len;rw[aP,aP]at h3;have r1:=qk a;have r2:=qk b;have r3:=tD a.natAbs b.natAbs;have r4: -1<=sg a*f4 a.natAbs b.natAbs/\sg a*f4 a.natAbs b.natAbs<=1:=by
  have:sg a= -1\/sg a=0\/sg a=1:=by omega
  rcases this with h|h|h<;>rw[h]<;>omega
 by_cases hs:sg a=sg b
 ·rw[DG hs];refine aI Tryz.func24 rfl (by kernel_rfl) ?_;rw[Tryz.ntmps24];refine aC fun _ K=>?_;simp(disch:=omega) only[kd,aa,tZ,ae,ab];apply K
  refine bo aW [⟨1,_,_,_,h1⟩,⟨3,_,_,_,h2⟩] [] (by kernel_rfl) fun _ K=>?_;simp only[kd,tZ,aa,ab,af];apply K
  refine aD (aC fun _ K=>?_);simp(disch:=omega) only[kd,aa];apply K;refine aN rfl (aK ?_);show bf _ _ _ _;refine bo aW [⟨3,_,_,_,t1⟩,⟨6,_,_,_,t2⟩,⟨7,_,_,_,h3⟩] [] (by kernel_rfl) fun _ K=>?_;simp(disch:=omega) only[kd,bA,aa,ab,af,aO];apply K
  (refine aH ⟨.inr rfl,aG rfl ?_ rfl⟩;simp(disch:=omega) only[kd,Tryz.results24])
 rw[DH hs];refine aI Tryz.func24 rfl (by kernel_rfl) ?_;rw[Tryz.ntmps24];refine aC fun _ K=>?_;simp(disch:=omega) only[kd,aa,tZ,ae,ab];apply K
 refine bo aW [⟨1,_,_,_,h1⟩,⟨3,_,_,_,h2⟩] [] (by kernel_rfl) fun _ K=>?_;simp only[kd,tZ,aa,ab,af];apply K
 refine aD (aC fun _ K=>?_);simp(disch:=omega) only[kd,aa];apply K;refine aS rfl ?_;refine aD (aC fun _ K=>?_);simp only[kd,aa];apply K;by_cases hlt:sg a<sg b
 ·rw[if_pos hlt];refine bP rfl (fun _=>?_) (fun h=>by simp at h<;>omega);refine aC fun _ K=>?_;simp(disch:=omega) only[kd];apply K
  (refine aH ⟨.inr rfl,aG rfl ?_ rfl⟩;simp(disch:=omega) only[kd,Tryz.results24])
 rw[if_neg hlt];refine bP rfl (fun h=>by simp at h<;>omega) (fun _=>aK ?_);show bf _ _ _ _;refine aC fun _ K=>?_;simp(disch:=omega) only[kd];apply K
 (refine aH ⟨.inr rfl,aG rfl ?_ rfl⟩;simp(disch:=omega) only[kd,Tryz.results24])
def sumL:List Nat->List Nat->Nat->List Nat
 |[],[],c=>[c]
 |a::m,[],c=>(c+a)%4294967296::sumL m [] ((c+a)/4294967296)
 |[],b::n,c=>(c+b)%4294967296::sumL [] n ((c+b)/4294967296)
 |a::m,b::n,c=>(c+a+b)%4294967296::sumL m n ((c+a+b)/4294967296)
theorem kS: ∀(m n:List Nat) (c:Nat),natV (sumL m n c)=natV m+natV n+c
 |[],[],c=>by simp[sumL,natV]
 |a::m,[],c=>by simp only[sumL,natV,kS m []];omega
 |[],b::n,c=>by simp only[sumL,natV,kS [] n];omega
 |a::m,b::n,c=>by simp only[sumL,natV,kS m n];omega
theorem dO {a:Nat} {l:List Nat}:Lmb (a::l)↔a<4294967296/\Lmb l:=by simp[Lmb]
theorem mR: ∀(m n:List Nat) (c:Nat),Lmb m->Lmb n->c<=1->Lmb (sumL m n c)
 |[],[],c,_,_,hc=>by simp[sumL,Lmb];omega
 |a::m,[],c,hm,hn,hc=>by
  rw[dO]at hm;rw[sumL,dO];exact⟨Nat.mod_lt _ (by omega),mR m [] _ hm.2 hn (by omega)⟩
 |[],b::n,c,hm,hn,hc=>by
  rw[dO]at hn;rw[sumL,dO];exact⟨Nat.mod_lt _ (by omega),mR [] n _ hm hn.2 (by omega)⟩
 |a::m,b::n,c,hm,hn,hc=>by
  rw[dO]at hm hn;rw[sumL,dO];exact⟨Nat.mod_lt _ (by omega),mR m n _ hm.2 hn.2 (by omega)⟩
theorem nj: ∀(m n:List Nat) (c:Nat),(sumL m n c).length=max m.length n.length+1
 |[],[],c=>by simp[sumL]
 |a::m,[],c=>by simp[sumL,nj m []]
 |[],b::n,c=>by simp[sumL,nj [] n]
 |a::m,b::n,c=>by simp[sumL,nj m n]
theorem eh {l:List Nat} {i a:Nat} (h:l[i]?=some a):l.drop i=a::l.drop (i+1):=by
 obtain⟨h1,rfl⟩:=List.getElem?_eq_some_iff.1 h;exact List.drop_eq_getElem_cons h1
theorem dM {l:List Nat} {i:Nat} (h:l.length<=i):l.drop i=[]:=List.drop_eq_nil_iff.2 h
theorem cu {l:List Nat} {i a:Nat} (hl:Lmb l) (h:l[i]?=some a):a<4294967296:=hl a (List.mem_of_getElem? h)
theorem sR (x:Nat):IntKind.u32.wrap (x:Int)=((x%4294967296:Nat):Int):=by rw[IntKind.wrap_u32];omega
theorem GY (x:Nat):(x:Int).fdiv (2^(min 32 IntKind.u64.bits))=((x/4294967296:Nat):Int):=by
 show Int.fdiv (x:Int) 4294967296=_;rw[Int.fdiv_eq_ediv_of_nonneg _ (by omega)];omega
structure QV (m n:List Nat) where
 i:Nat
 o:List Nat
 c:Nat
 hi:i<=max m.length n.length
 hc:c<=1
 ho:o.length=i
 h:o++sumL (m.drop i) (n.drop i) c=sumL m n 0
theorem Qv (m n:List Nat) (lm:Lmb m) (ln:Lmb n) (bm:m.length<=1073741824) (bn:n.length<=1073741824):
  CallC Tryz.prog 130 [bA m,bA n] ⟨[],bA (sumL m n 0)⟩:=by
 refine aI Tryz.func130 rfl (by kernel_rfl) ?_;rw[Tryz.ntmps130];refine aC fun _ K=>?_;simp only[kd,bA,aa,ae];apply K
 refine aC fun _ K=>?_;simp only[kd];apply K
 refine aC fun _ K=>?_;simp only[kd];apply K
 refine aD (aC fun _ K=>?_);simp only[kd];apply K;refine aT (G:=QV m n) (fun g=>⟨(bA m::bA n::jk::jk::.raw (.slice none 0 0)::.one (.sl 46 0 0 g.o.length)::.raw (.int .u64 (g.c:Int))::rN g.i::j16 (j16 (j4 (j4 (j4 (jk::jk::[])))))),Hm [(46,[⟨79,1,lc fU g.o⟩])]⟩) (fun g=>max m.length n.length-g.i) ⟨0,[],0,by omega,by omega,rfl,rfl⟩ ?_ ?_
 ·refine(fp (k:=5) (d:=46) 79 1 (by omega) rfl rfl).trans (aE ⟨rfl,trivial⟩ ?_);simp[wk]
 rintro⟨i,o,c,hi,hc,ho,h⟩;simp only;have hmx:max m.length n.length<=1073741824:=by omega
 by_cases hm:i<m.length
 ·obtain⟨a,ha⟩:=getElem?_of_lt hm;have ha':=cu lm ha;refine aD (aC fun _ K=>?_);simp(disch:=omega) only[kd,aa,bA,reduceCtorEq];apply K;refine aS rfl (aK ?_);refine aD (aJ ?_);refine aD (aC fun _ K=>?_);simp(disch:=omega) only[kd,aa];apply K;refine aS rfl ?_;refine aL fun _ K=>?_;simp(disch:=omega) only[kd,aa,ha,du];apply K
  show bf _ _ _ _;refine aD (aC fun _ K=>?_);simp only[kd,aa];apply K;by_cases hn:i<n.length
  ·obtain⟨b,hb⟩:=getElem?_of_lt hn;have hb':=cu ln hb;refine bP rfl (fun _=>?_) (fun h=>by simp at h<;>omega);refine aL fun _ K=>?_;simp(disch:=omega) only[kd,aa,hb,du];apply K
   show bf _ _ _ _;have e1:IntKind.u32.wrap ((c:Int)+(a:Int)+(b:Int))=(((c+a+b)%4294967296:Nat):Int):=by rw[<- sR];congr 1<;>omega
   have e2:Int.fdiv ((c:Int)+(a:Int)+(b:Int)) (2^(min 32 IntKind.u64.bits))=(((c+a+b)/4294967296:Nat):Int):=by rw[<- GY];congr 1<;>omega
   refine aC fun _ K=>?_;simp(disch:=omega) only[kd,aa,e1,Nat.reduceMul,ah,iO];apply K
   refine aL fun _ K=>?_;simp only[kd,aa,Int.reduceLE,am,e2];apply K
   show bf _ _ _ _;refine aL fun _ K=>?_;simp(disch:=omega) only[kd,aa,aO];apply K
   refine⟨⟨i+1,o++[(c+a+b)%4294967296],(c+a+b)/4294967296,by omega,by omega,by simp[ho],?_⟩,by simp only;omega,aE ⟨rfl,trivial⟩ ?_⟩
   ·rw[<- h,eh ha,eh hb,sumL,List.append_assoc];rfl
   simp[wk]
  refine bP rfl (fun h=>by simp at h<;>omega) (fun _=>aK ?_);show bf _ _ _ _;have e1:IntKind.u32.wrap ((c:Int)+(a:Int))=(((c+a)%4294967296:Nat):Int):=by rw[<- sR];congr 1<;>omega
  have e2:Int.fdiv ((c:Int)+(a:Int)) (2^(min 32 IntKind.u64.bits))=(((c+a)/4294967296:Nat):Int):=by rw[<- GY];congr 1<;>omega
  refine aC fun _ K=>?_;simp(disch:=omega) only[kd,aa,e1,Nat.reduceMul,ah,iO];apply K
  refine aL fun _ K=>?_;simp only[kd,aa,Int.reduceLE,am,e2];apply K
  show bf _ _ _ _;refine aL fun _ K=>?_;simp(disch:=omega) only[kd,aa,aO];apply K
  refine⟨⟨i+1,o++[(c+a)%4294967296],(c+a)/4294967296,by omega,by omega,by simp[ho],?_⟩,by simp only;omega,aE ⟨rfl,trivial⟩ ?_⟩
  ·rw[<- h,eh ha,dM (by omega:n.length<=i),dM (by omega:n.length<=i+1),sumL,List.append_assoc];rfl
  simp[wk]
 by_cases hn:i<n.length
 ·obtain⟨b,hb⟩:=getElem?_of_lt hn;have hb':=cu ln hb;refine aD (aC fun _ K=>?_);simp(disch:=omega) only[kd,aa,bA];apply K;refine aS rfl (aK ?_);refine aD (aJ ?_);refine aD (aC fun _ K=>?_);simp(disch:=omega) only[kd,aa];apply K;refine aN rfl (aK ?_);show bf _ _ _ _;refine aD (aC fun _ K=>?_);simp(disch:=omega) only[kd,aa];apply K;refine aS rfl ?_;refine aL fun _ K=>?_;simp(disch:=omega) only[kd,aa,hb,du];apply K
  show bf _ _ _ _;have e1:IntKind.u32.wrap ((c:Int)+(b:Int))=(((c+b)%4294967296:Nat):Int):=by rw[<- sR];congr 1<;>omega
  have e2:Int.fdiv ((c:Int)+(b:Int)) (2^(min 32 IntKind.u64.bits))=(((c+b)/4294967296:Nat):Int):=by rw[<- GY];congr 1<;>omega
  refine aC fun _ K=>?_;simp(disch:=omega) only[kd,aa,e1,Nat.reduceMul,ah,iO];apply K
  refine aL fun _ K=>?_;simp only[kd,aa,Int.reduceLE,am,e2];apply K
  show bf _ _ _ _;refine aL fun _ K=>?_;simp(disch:=omega) only[kd,aa,aO];apply K
  refine⟨⟨i+1,o++[(c+b)%4294967296],(c+b)/4294967296,by omega,by omega,by simp[ho],?_⟩,by simp only;omega,aE ⟨rfl,trivial⟩ ?_⟩
  ·rw[<- h,eh hb,dM (by omega:m.length<=i),dM (by omega:m.length<=i+1),sumL,List.append_assoc];rfl
  simp[wk]
 refine aD (aC fun _ K=>?_);simp(disch:=omega) only[kd,aa,bA];apply K;refine aN rfl (bE ?_);show bf _ _ _ _;have e1:IntKind.u32.wrap (c:Int)=(c:Int):=by rw[sR];omega
 refine aC fun _ K=>?_;simp(disch:=omega) only[kd,aa,e1,Nat.reduceMul,ah,iO];apply K
 have hfin:sumL m n 0=o++[c]:=by rw[<- h,dM (by omega:m.length<=i),dM (by omega:n.length<=i),sumL]
 (refine aH ⟨.inr rfl,kw 46 (cY rfl) ?_ rfl⟩;simp(disch:=omega) only[kd,Tryz.results130,bA])
 simp only[hfin];rw[List.take_of_length_le (by simp)]
def diffL:List Nat->List Nat->Nat->List Nat
 |[],_,_=>[]
 |a::m,[],w=>(a+8589934592-w)%4294967296::diffL m [] (if a<w then 1 else 0)
 |a::m,b::n,w=>(a+8589934592-(w+b))%4294967296::diffL m n (if a<w+b then 1 else 0)
theorem io: ∀(m n:List Nat) (w:Nat),Lmb m->Lmb n->w<=1->n.length<=m.length->natV n+w<=natV m->natV (diffL m n w)+(natV n+w)=natV m
 |[],[],w,_,_,_,_,h=>by simp[diffL,natV]at*;omega
 |[],b::n,w,_,_,_,h,_=>by simp at h
 |a::m,[],w,hm,hn,hw,hl,h=>by
  rw[dO]at hm;simp only[natV]at h;have:=io m [] (if a<w then 1 else 0) hm.2 hn (by split<;>omega) (by simp) (by simp only[natV];split<;>omega);simp only[diffL,natV]at this⊢;split at this<;>rename_i hlt<;>simp only[hlt,if_true,if_false]<;>omega
 |a::m,b::n,w,hm,hn,hw,hl,h=>by
  rw[dO]at hm hn;simp only[natV]at h;have:=io m n (if a<w+b then 1 else 0) hm.2 hn.2 (by split<;>omega) (by simpa using hl) (by split<;>omega);simp only[diffL,natV]at this⊢;split at this<;>rename_i hlt<;>simp only[hlt,if_true,if_false]<;>omega
theorem jr: ∀(m n:List Nat) (w:Nat),Lmb (diffL m n w)
 |[],n,w=>by simp[diffL,Lmb]
 |a::m,[],w=>by rw[diffL,dO];exact⟨Nat.mod_lt _ (by omega),jr m [] _⟩
 |a::m,b::n,w=>by rw[diffL,dO];exact⟨Nat.mod_lt _ (by omega),jr m n _⟩
theorem jp: ∀(m n:List Nat) (w:Nat),(diffL m n w).length=m.length
 |[],n,w=>by simp[diffL]
 |a::m,[],w=>by simp[diffL,jp m []]
 |a::m,b::n,w=>by simp[diffL,jp m n]
structure PR (m n:List Nat) where
 i:Nat
 o:List Nat
 c:Nat
 hi:i<=m.length
 hc:c<=1
 ho:o.length=i
 h:o++diffL (m.drop i) (n.drop i) c=diffL m n 0
theorem lI (m n:List Nat) (lm:Lmb m) (ln:Lmb n) (bm:m.length<=1073741824) (bn:n.length<=1073741824):
  CallC Tryz.prog 131 [bA m,bA n] ⟨[],bA (diffL m n 0)⟩:=by
 refine aI Tryz.func131 rfl (by kernel_rfl) ?_;rw[Tryz.ntmps131];refine aC fun _ K=>?_;simp only[kd,bA,aa,ae];apply K
 refine aC fun _ K=>?_;simp only[kd];apply K
 refine aC fun _ K=>?_;simp only[kd];apply K
 refine aD (aC fun _ K=>?_);simp only[kd];apply K;refine aT (G:=PR m n) (fun g=>⟨(bA m::bA n::jk::jk::.raw (.slice none 0 0)::.one (.sl 37 0 0 g.o.length)::.raw (.int .u64 (g.c:Int))::rN g.i::j16 (j16 (j4 (jk::jk::[])))),Hm [(37,[⟨79,1,lc fU g.o⟩])]⟩) (fun g=>m.length-g.i) ⟨0,[],0,by omega,by omega,rfl,rfl⟩ ?_ ?_
 ·refine(fp (k:=5) (d:=37) 79 1 (by omega) rfl rfl).trans (aE ⟨rfl,trivial⟩ ?_);simp[wk]
 rintro⟨i,o,c,hi,hc,ho,h⟩;simp only;by_cases hm:i<m.length
 ·obtain⟨a,ha⟩:=getElem?_of_lt hm;have ha':=cu lm ha;refine aD (aC fun _ K=>?_);simp(disch:=omega) only[kd,aa,bA];apply K;refine aS rfl (aK ?_);refine aD (aJ ?_);refine aC fun _ K=>?_;simp only[kd];apply K
  refine aD (aC fun _ K=>?_);simp only[kd,aa];apply K;by_cases hn:i<n.length
  ·obtain⟨b,hb⟩:=getElem?_of_lt hn;have hb':=cu ln hb;refine bP rfl (fun _=>?_) (fun h=>by simp at h<;>omega);refine aL fun _ K=>?_;simp(disch:=omega) only[kd,aa,hb,du];apply K
   show bf _ _ _ _;have e1:IntKind.u32.wrap (IntKind.u64.wrap ((a:Int)-((c:Int)+(b:Int))))=(((a+8589934592-(c+b))%4294967296:Nat):Int):=by rw[IntKind.wrap_u32,IntKind.wrap_u64];omega
   refine aC fun _ K=>?_;simp(disch:=omega) only[kd,aa,ha,du,e1,Nat.reduceMul,ah,iO];apply K
   refine aC fun _ K=>?_;simp only[kd];apply K
   refine aC fun _ K=>?_;simp(disch:=omega) only[kd,aa,ha,du];apply K
   by_cases hlt:a<c+b
   ·refine bP rfl (fun _=>?_) (fun h=>by simp at h<;>omega);refine aL fun _ K=>?_;simp(disch:=omega) only[kd];apply K
    show bf _ _ _ _;refine aL fun _ K=>?_;simp(disch:=omega) only[kd,aa,aO];apply K
    refine⟨⟨i+1,o++[(a+8589934592-(c+b))%4294967296],1,by omega,by omega,by simp[ho],?_⟩,by simp only;omega,aE ⟨rfl,trivial⟩ ?_⟩
    ·rw[<- h,eh ha,eh hb,diffL,List.append_assoc,if_pos hlt];rfl
    simp[wk]
   refine bP rfl (fun h=>by simp at h<;>omega) (fun _=>aK ?_);show bf _ _ _ _;refine aL fun _ K=>?_;simp(disch:=omega) only[kd,aa,du,aO];apply K
   refine⟨⟨i+1,o++[(a+8589934592-(c+b))%4294967296],0,by omega,by omega,by simp[ho],?_⟩,by simp only;omega,aE ⟨rfl,trivial⟩ ?_⟩
   ·rw[<- h,eh ha,eh hb,diffL,List.append_assoc,if_neg hlt];rfl
   simp[wk]
  refine bP rfl (fun h=>by simp at h<;>omega) (fun _=>aK ?_);show bf _ _ _ _;have e1:IntKind.u32.wrap (IntKind.u64.wrap ((a:Int)-(c:Int)))=(((a+8589934592-c)%4294967296:Nat):Int):=by rw[IntKind.wrap_u32,IntKind.wrap_u64];omega
  refine aC fun _ K=>?_;simp(disch:=omega) only[kd,aa,ha,du,e1,Nat.reduceMul,ah,iO];apply K
  refine aC fun _ K=>?_;simp only[kd];apply K
  refine aC fun _ K=>?_;simp(disch:=omega) only[kd,aa,ha,du];apply K
  by_cases hlt:a<c
  ·refine bP rfl (fun _=>?_) (fun h=>by simp at h<;>omega);refine aL fun _ K=>?_;simp(disch:=omega) only[kd];apply K
   show bf _ _ _ _;refine aL fun _ K=>?_;simp(disch:=omega) only[kd,aa,aO];apply K
   refine⟨⟨i+1,o++[(a+8589934592-c)%4294967296],1,by omega,by omega,by simp[ho],?_⟩,by simp only;omega,aE ⟨rfl,trivial⟩ ?_⟩
   ·rw[<- h,eh ha,dM (by omega:n.length<=i),dM (by omega:n.length<=i+1),diffL,List.append_assoc,if_pos hlt];rfl
   simp[wk]
  refine bP rfl (fun h=>by simp at h<;>omega) (fun _=>aK ?_);show bf _ _ _ _;refine aL fun _ K=>?_;simp(disch:=omega) only[kd,aa,du,aO];apply K
  refine⟨⟨i+1,o++[(a+8589934592-c)%4294967296],0,by omega,by omega,by simp[ho],?_⟩,by simp only;omega,aE ⟨rfl,trivial⟩ ?_⟩
  ·rw[<- h,eh ha,dM (by omega:n.length<=i),dM (by omega:n.length<=i+1),diffL,List.append_assoc,if_neg hlt];rfl
  simp[wk]
 refine aD (aC fun _ K=>?_);simp(disch:=omega) only[kd,aa,bA];apply K;refine aN rfl (bE ?_);show bf _ _ _ _;refine aC fun _ K=>?_;simp only[kd];apply K
 have hfin:diffL m n 0=o:=by rw[<- h,dM (by omega:m.length<=i),diffL];simp
 (refine aH ⟨.inr rfl,kw 37 (cY rfl) ?_ rfl⟩;simp(disch:=omega) only[kd,Tryz.results131,bA])
 simp only[hfin];rw[List.take_of_length_le (by simp)]
abbrev Bh (z:Int):Prop:=Sz z 536870912
theorem Bh.bg {z:Int} (h:Bh z):Bg z:=h.mono (by omega)
theorem Bh.len {z:Int} (h:Bh z):(aQ z.natAbs).length<=536870912:=jq h
theorem Sz.neg {z:Int} {k:Nat} (h:Sz z k):Sz (-z) k:=by unfold Sz;rw[Int.natAbs_neg];exact h
theorem Bh.neg {z:Int} (h:Bh z):Bh (-z):=Sz.neg h
theorem Hu {a b:Int} (h:decide (a<0)=decide (b<0)):f6 (decide (a<0)) (a.natAbs+b.natAbs)=a+b:=by
 unfold f6;by_cases ha:a<0<;>by_cases hb:b<0<;>simp[ha,hb]at h⊢ <;>omega
theorem zy {a b:Int} (h:decide (a<0)≠decide (b<0)) (hle:b.natAbs<=a.natAbs) {d:Nat} (hd:d+(b.natAbs+0)=a.natAbs):f6 (decide (a<0)) d=a+b:=by
 unfold f6;by_cases ha:a<0<;>by_cases hb:b<0<;>simp[ha,hb]at h⊢ <;>omega
theorem iQ {l m:List Nat} (hl:Lmb l) (cm:oE m) (h:natV m<=natV l):m.length<=l.length:=by
 by_cases hc:m.length<=l.length
 ·exact hc
 have:=iS hl cm (by omega);omega
theorem v6 (a b:Int) (ha:Bh a) (hb:Bh b):CallC Tryz.prog 101 [tZ a,tZ b] ⟨[],tZ (a+b)⟩:=by
 have la:=ha.len;have lb:=hb.len;have t1:=i7 (aQ a.natAbs) ha.bg.len;have t2:=i7 (aQ b.natAbs) hb.bg.len;rw[fY]at t1 t2;by_cases hs:decide (a<0)=decide (b<0)
 ·have h3:=Qv (aQ a.natAbs) (aQ b.natAbs) (aV _) (aV _) (by omega) (by omega);have h4:=jE (decide (a<0)) (sumL (aQ a.natAbs) (aQ b.natAbs) 0) (mR _ _ _ (aV _) (aV _) (by omega)) (by rw[nj];omega);rw[kS,aP,aP,Nat.add_zero,Hu hs]at h4;have hs':(decide (a<0)==decide (b<0))=true:=by simp[hs]
  refine aI Tryz.func101 rfl (by kernel_rfl) ?_;rw[Tryz.ntmps101];refine aC fun _ K=>?_;simp(disch:=omega) only[kd,aa,tZ,ae,ab];apply K
  refine bo aW [⟨2,_,_,_,t1⟩,⟨5,_,_,_,t2⟩] [] (by kernel_rfl) fun _ K=>?_;simp(disch:=omega) only[kd,bA,aa,ab,af];apply K
  refine aD (aC fun _ K=>?_);simp(disch:=omega) only[kd,aa,ab,hs'];apply K;refine aS rfl ?_;refine bo aW [⟨4,_,_,_,h3⟩,⟨5,_,_,_,h4⟩] [] (by kernel_rfl) fun _ K=>?_;simp(disch:=omega) only[kd,bA,tZ,aa,ab,af];apply K
  (refine aH ⟨.inr rfl,aG rfl ?_ rfl⟩;simp(disch:=omega) only[kd,Tryz.results101,ab,aa,tZ])
 have hs':(decide (a<0)==decide (b<0))=false:=by simpa using hs
 have h3:=DI (aQ a.natAbs) (aQ b.natAbs) (aV _) (aV _) (ce _) (ce _) (by omega) (by omega);rw[aP,aP]at h3;by_cases hle:b.natAbs<=a.natAbs
 ·have hge:0<=f4 a.natAbs b.natAbs:=by unfold f4;split<;>(try split)<;>omega
  have h4:=lI (aQ a.natAbs) (aQ b.natAbs) (aV _) (aV _) (by omega) (by omega);have h5:=jE (decide (a<0)) (diffL (aQ a.natAbs) (aQ b.natAbs) 0) (jr _ _ _) (by rw[jp];omega);have hd:=io (aQ a.natAbs) (aQ b.natAbs) 0 (aV _) (aV _) (by omega) (iQ (aV _) (ce _) (by rw[aP,aP];exact hle)) (by rw[aP,aP];exact hle);rw[aP,aP]at hd;rw[zy hs hle hd]at h5;refine aI Tryz.func101 rfl (by kernel_rfl) ?_;rw[Tryz.ntmps101];refine aC fun _ K=>?_;simp(disch:=omega) only[kd,aa,tZ,ae,ab];apply K
  refine bo aW [⟨2,_,_,_,t1⟩,⟨5,_,_,_,t2⟩] [] (by kernel_rfl) fun _ K=>?_;simp(disch:=omega) only[kd,bA,aa,ab,af];apply K
  refine aD (aC fun _ K=>?_);simp(disch:=omega) only[kd,aa,ab,hs'];apply K;refine aN rfl (aK ?_);show bf _ _ _ _;refine aD (aF [⟨2,_,_,_,h3⟩] [] fun _ K=>?_);simp(disch:=omega) only[kd,bA,aa];apply K;refine aS rfl ?_;refine bo aW [⟨4,_,_,_,h4⟩,⟨5,_,_,_,h5⟩] [] (by kernel_rfl) fun _ K=>?_;simp(disch:=omega) only[kd,bA,tZ,aa,ab,af];apply K
  (refine aH ⟨.inr rfl,aG rfl ?_ rfl⟩;simp(disch:=omega) only[kd,Tryz.results101,ab,aa,tZ])
 have hge:f4 a.natAbs b.natAbs<0:=by unfold f4;split<;>(try split)<;>omega
 have h4:=lI (aQ b.natAbs) (aQ a.natAbs) (aV _) (aV _) (by omega) (by omega);have h5:=jE (decide (b<0)) (diffL (aQ b.natAbs) (aQ a.natAbs) 0) (jr _ _ _) (by rw[jp];omega);have hd:=io (aQ b.natAbs) (aQ a.natAbs) 0 (aV _) (aV _) (by omega) (iQ (aV _) (ce _) (by rw[aP,aP];omega)) (by rw[aP,aP];omega);rw[aP,aP]at hd;rw[zy (fun h=>hs h.symm) (by omega) hd,Int.add_comm]at h5;refine aI Tryz.func101 rfl (by kernel_rfl) ?_;rw[Tryz.ntmps101];refine aC fun _ K=>?_;simp(disch:=omega) only[kd,aa,tZ,ae,ab];apply K
 refine bo aW [⟨2,_,_,_,t1⟩,⟨5,_,_,_,t2⟩] [] (by kernel_rfl) fun _ K=>?_;simp(disch:=omega) only[kd,bA,aa,ab,af];apply K
 refine aD (aC fun _ K=>?_);simp(disch:=omega) only[kd,aa,ab,hs'];apply K;refine aN rfl (aK ?_);show bf _ _ _ _;refine aD (aF [⟨2,_,_,_,h3⟩] [] fun _ K=>?_);simp(disch:=omega) only[kd,bA,aa];apply K;refine aN rfl (aK ?_);show bf _ _ _ _;refine bo aW [⟨4,_,_,_,h4⟩,⟨5,_,_,_,h5⟩] [] (by kernel_rfl) fun _ K=>?_;simp(disch:=omega) only[kd,bA,tZ,aa,ab,af];apply K
 (refine aH ⟨.inr rfl,aG rfl ?_ rfl⟩;simp(disch:=omega) only[kd,Tryz.results101,ab,aa,tZ])
theorem NH (a b:Int) (ha:Bh a) (hb:Bh b):CallC Tryz.prog 57 [tZ a,tZ b] ⟨[],tZ (a-b)⟩:=by
 have h1:=I7 b hb.bg;have h2:=v6 a (-b) ha hb.neg;rw[<- Int.sub_eq_add_neg]at h2;refine aI Tryz.func57 rfl (by kernel_rfl) ?_;rw[Tryz.ntmps57];refine aC fun _ K=>?_;simp(disch:=omega) only[kd,aa,tZ,ae,ab];apply K
 refine bo aW [⟨2,_,_,_,h1⟩,⟨3,_,_,_,h2⟩] [] (by kernel_rfl) fun _ K=>?_;simp(disch:=omega) only[kd,tZ,aa,ab,af];apply K
 (refine aH ⟨.inr rfl,aG rfl ?_ rfl⟩;simp(disch:=omega) only[kd,Tryz.results57,ab,aa,tZ])
theorem pU: ∀(l:List Nat) (k v o:Nat),l[k]?=some o->natV (l.set k v)+o*4294967296^k=natV l+v*4294967296^k
 |[],k,v,o,h=>by simp at h
 |a::l,0,v,o,h=>by simp at h;subst h;simp[natV];omega
 |a::l,k+1,v,o,h=>by
  simp at h;have:=pU l k v o h;simp only[List.set_cons_succ,natV,Nat.pow_succ];have e1:o*(4294967296^k*4294967296)=4294967296*(o*4294967296^k):=by rw[<- Nat.mul_assoc,Nat.mul_comm]
  have e2:v*(4294967296^k*4294967296)=4294967296*(v*4294967296^k):=by rw[<- Nat.mul_assoc,Nat.mul_comm]
  rw[e1,e2];omega
theorem ye {l:List Nat} (h:Lmb l) {k v:Nat} (hv:v<4294967296):Lmb (l.set k v):=fun a ha=>by
 rcases List.mem_or_eq_of_mem_set ha with ha|rfl
 ·exact h a ha
 exact hv
theorem uq (n:Nat):natV (ae n 0)=0:=by induction n with
 |zero=>rfl
 |succ n ih=>simp[List.replicate_succ,natV,ih]
theorem bJ {l:List Nat} {i a:Nat} (h:l[i]?=some a):natV (l.take (i+1))=natV (l.take i)+a*4294967296^i:=by
 obtain⟨h1,rfl⟩:=List.getElem?_eq_some_iff.1 h;rw[List.take_succ_eq_append_getElem h1,iP,List.length_take,Nat.min_eq_left (by omega)];simp[natV,Nat.mul_comm]
theorem lP (n:Nat):ae n [AV.p (.raw (.int .u32 0))]=lc fU (ae n 0):=by simp[lc,fU]
theorem dG (l:List Nat) (k v:Nat):(lc fU l).set k [AV.p (.raw (.int .u32 (v:Int)))]=lc fU (l.set k v):=by simp[lc,fU,List.map_set]
structure ET (A B:List Nat) where
 i:Nat
 O:List Nat
 hi:i<=A.length
 len:O.length=A.length+B.length
 lmb:Lmb O
 val:natV O=natV (A.take i)*natV B
 zero: ∀k,i+B.length<=k->k<A.length+B.length->O[k]?=some 0
structure G7 (A B:List Nat) (i a:Nat) where
 j:Nat
 O:List Nat
 c:Nat
 hj:j<=B.length
 len:O.length=A.length+B.length
 lmb:Lmb O
 hc:c<4294967296
 val:natV O+c*4294967296^(i+j)=natV (A.take i)*natV B+a*natV (B.take j)*4294967296^i
 zero: ∀k,i+B.length<=k->k<A.length+B.length->O[k]?=some 0
theorem nO {a b:Nat} (ha:a<4294967296) (hb:b<4294967296):a*b<=18446744065119617025:=by
 have:a*b<=4294967295*4294967295:=Nat.mul_le_mul (by omega) (by omega);omega
theorem wP {A B:List Nat} {i a:Nat} (g:G7 A B i a) {y o:Nat} (hy:B[g.j]?=some y) (ho:g.O[i+g.j]?=some o) (hi:i<A.length) (ha:a<4294967296) (hy':y<4294967296):
  ∃g':G7 A B i a,g'.j=g.j+1/\g'.O=g.O.set (i+g.j) ((g.c+(a*y+o))%4294967296)/\g'.c=(g.c+(a*y+o))/4294967296:=by
 have hjl:g.j<B.length:=(List.getElem?_eq_some_iff.1 hy).1;have ho':=cu g.lmb ho;have hb:=nO ha hy';have hc:=g.hc;refine⟨⟨g.j+1,g.O.set (i+g.j) ((g.c+(a*y+o))%4294967296),(g.c+(a*y+o))/4294967296,hjl,by simp[g.len],ye g.lmb (Nat.mod_lt _ (by omega)),?_,?_,fun k h1 h2=>?_⟩,rfl,rfl,rfl⟩
 ·generalize a*y=p at*
  omega
 ·have h1:=pU g.O (i+g.j) ((g.c+(a*y+o))%4294967296) o ho;have h2:=bJ hy;have h3:=g.val;rw[h2,show i+(g.j+1)=i+g.j+1 by omega,Nat.pow_succ,Nat.mul_add a,Nat.add_mul];have e1:a*(y*4294967296^g.j)*4294967296^i=a*y*4294967296^(i+g.j):=by
   rw[<- Nat.mul_assoc,Nat.mul_assoc,<- Nat.pow_add,Nat.add_comm g.j i]
  rw[e1];generalize 4294967296^(i+g.j)=X at*
  generalize a*y=p at*
  have e2:(g.c+(p+o))=(g.c+(p+o))%4294967296+4294967296*((g.c+(p+o))/4294967296):=(Nat.mod_add_div _ _).symm;generalize hr:(g.c+(p+o))%4294967296=r at*
  generalize hq:(g.c+(p+o))/4294967296=q at*
  generalize natV (g.O.set (i+g.j) r)=N at*
  generalize natV g.O=M at*
  generalize natV (A.take i)*natV B=U at*
  generalize a*natV (B.take g.j)*4294967296^i=V at*
  -- N + o X = M + r X, M + c X = U + V, c + p + o = r + B q
  have e3:g.c*X+(p*X+o*X)=r*X+q*(X*4294967296):=by
   have:=congrArg (· *X) e2;simp only[Nat.add_mul]at this;rw[this]
   congr 1
   rw[Nat.mul_comm 4294967296 q,Nat.mul_assoc,Nat.mul_comm 4294967296 X]
  omega
 rw[List.getElem?_set_ne (by omega)];exact g.zero k h1 h2
theorem wO {A B:List Nat} {i a:Nat} (hA:A[i]?=some a) (g:G7 A B i a) (hj: ¬g.j<B.length): ∃g':ET A B,g'.i=i+1/\g'.O=g.O.set (i+B.length) g.c:=by
 have hi:=(List.getElem?_eq_some_iff.1 hA).1;have hjl:=g.hj;have e:g.j=B.length:=by omega
 have hz:=g.zero (i+B.length) (Nat.le_refl _) (by omega);refine⟨⟨i+1,g.O.set (i+B.length) g.c,hi,by simp[g.len],ye g.lmb g.hc,?_,fun k h1 h2=>?_⟩,rfl,rfl⟩
 ·have h1:=pU g.O (i+B.length) g.c 0 hz;have h2:=g.val;rw[e,List.take_length]at h2;rw[bJ hA,Nat.add_mul];have e1:a*4294967296^i*natV B=a*natV B*4294967296^i:=by rw[Nat.mul_assoc,Nat.mul_comm (4294967296^i),<- Nat.mul_assoc]
  rw[e1];omega
 rw[List.getElem?_set_ne (by omega)];exact g.zero k (by omega) h2
theorem Ef (a b:Int):f6 (!(decide (a<0)==decide (b<0))) (a.natAbs*b.natAbs)=a*b:=by
 have h:=Int.natAbs_mul a b;unfold f6;rcases Int.lt_or_le a 0 with ha|ha<;>rcases Int.lt_or_le b 0 with hb|hb
 ·have:0<a*b:=Int.mul_pos_of_neg_of_neg ha hb;simp[ha,hb];omega
 ·have:a*b<=0:=Int.mul_nonpos_of_nonpos_of_nonneg (by omega) hb;have hb': ¬b<0:=by omega
  simp[ha,hb'];omega
 ·have:a*b<=0:=Int.mul_nonpos_of_nonneg_of_nonpos ha (by omega);have ha': ¬a<0:=by omega
  simp[ha',hb];omega
 have:0<=a*b:=Int.mul_nonneg ha hb;have ha': ¬a<0:=by omega
 have hb': ¬b<0:=by omega
 simp[ha',hb'];omega
abbrev yX (neg:Bool) (A:List Nat):List OObj:=[⟨42,2,[[.p (.raw (.bool neg)),.p (.sl (ls fU A))]]⟩]
abbrev qL:List OObj:=[⟨42,2,[[.raw (.bool false),.raw (.slice none 0 0)]]⟩]
theorem ma (a b:Int) (ha:Bh a) (hb:Bh b):CallC Tryz.prog 21 [tZ a,tZ b] ⟨[],tZ (a*b)⟩:=by
 have la:=ha.len;have lb:=hb.len;have hlA:=aV a.natAbs;have hlB:=aV b.natAbs;have vA:=aP a.natAbs;have vB:=aP b.natAbs;refine aI Tryz.func21 rfl (by kernel_rfl) ?_;rw[Tryz.ntmps21];refine aC fun _ K=>?_;simp(disch:=omega) only[kd,aa,tZ,ae,ab];apply K
 generalize aQ a.natAbs=A at*
 generalize aQ b.natAbs=B at*
 have e0:((A.length:Int)+(B.length:Int)).toNat=A.length+B.length:=by omega
 refine aC fun _ K=>?_;simp(disch:=omega) only[kd,aa,ab,aO,e0,lP];apply K
 refine aD (aC fun _ K=>?_);simp(disch:=omega) only[kd,aa,ab];apply K;refine aT (G:=ET A B) (fun g=>⟨(jk::jk::.one (.ptr 2 0 0 0)::.one (.ptr 3 0 0 0)::.one (.ptr 4 0 0 0)::.one (.sl 18 0 0 (A.length+B.length))::j4 (j4 (j4 (jk::jk::bA A::rN A.length::rN g.i::j16 (j16 (j16 (j4 (jk::jk::[])))))))),Hm [(2,yX (decide (a<0)) A),(3,yX (decide (b<0)) B),(4,qL),(18,[⟨79,1,lc fU g.O⟩])]⟩) (fun g=>A.length-g.i) ⟨0,ae (A.length+B.length) 0,by omega,by simp,fun x hx=>by simp at hx;omega,by simp[uq,natV],fun k h1 h2=>by rw[List.getElem?_replicate,if_pos h2]⟩ ?_ ?_
 ·refine aE ⟨rfl,rfl,rfl,rfl,trivial⟩ ?_;simp[wk]
 rintro⟨i,O,hi,len,lmb,val,zero⟩;simp only;by_cases hm:i<A.length
 ·obtain⟨x,hx⟩:=getElem?_of_lt hm;have hx':=cu hlA hx;refine aC fun _ K=>?_;simp(disch:=omega) only[kd,bA];apply K
  refine bu rfl ?_;refine aD (aJ ?_);refine aC fun _ K=>?_;simp(disch:=omega) only[kd,aa,hx];apply K
  refine aC fun _ K=>?_;simp only[kd];apply K
  refine aD (aC fun _ K=>?_);simp(disch:=omega) only[kd,aa,ab];apply K;refine aT (G:=G7 A B i x) (fun g=>⟨(jk::jk::.one (.ptr 2 0 0 0)::.one (.ptr 3 0 0 0)::.one (.ptr 4 0 0 0)::.one (.sl 18 0 0 (A.length+B.length))::rN i::.raw (.int .u32 (x:Int))::.raw (.int .u64 (g.c:Int))::j4 (j4 (jk::jk::jk::bA A::rN A.length::rN i::j4 (jk::bA B::rN B.length::rN g.j::j16 (j16 (j4 (j4 (j4 (jk::jk::[]))))))))),Hm [(2,yX (decide (a<0)) A),(3,yX (decide (b<0)) B),(4,qL),(18,[⟨79,1,lc fU g.O⟩])]⟩) (fun g=>B.length-g.j) ⟨0,O,0,by omega,len,lmb,by omega,by simpa[natV] using val,zero⟩ ?_ ?_
  ·refine aE ⟨rfl,rfl,rfl,rfl,trivial⟩ ?_;simp[wk]
  intro g;by_cases hn:g.j<B.length
  ·obtain⟨y,hy⟩:=getElem?_of_lt hn;have hy':=cu hlB hy;have hlen:=g.len;obtain⟨o,ho⟩:=getElem?_of_lt (show i+g.j<g.O.length by omega);have ho':=cu g.lmb ho;have hb:=nO hx' hy';have hgc:=g.hc;obtain⟨g',q1,q2,q3⟩:=wP g hy ho hm hx' hy';have e1:((i:Int)+(g.j:Int)).toNat=i+g.j:=by omega
   have e2:(x:Int)*(y:Int)=((x*y:Nat):Int):=by simp
   generalize hp:x*y=p at*
   have e3:IntKind.u32.wrap ((g.c:Int)+((p:Int)+(o:Int)))=(((g.c+(p+o))%4294967296:Nat):Int):=by rw[<- sR];congr 1<;>omega
   have e4:Int.fdiv ((g.c:Int)+((p:Int)+(o:Int))) (2^(min 32 IntKind.u64.bits))=(((g.c+(p+o))/4294967296:Nat):Int):=by rw[<- GY];congr 1<;>omega
   refine aC fun _ K=>?_;simp(disch:=omega) only[kd,bA];apply K
   refine bu rfl ?_;refine aD (aJ ?_);refine aC fun _ K=>?_;simp(disch:=omega) only[kd,aa,hy];apply K
   refine aC fun _ K=>?_;simp(disch:=omega) only[kd,aa,du,e2,aO,e1,ab,ho];apply K
   refine aC fun _ K=>?_;simp(disch:=omega) only[kd,aa,aO,e3,e1,ab,ho,dG];apply K
   refine aL fun _ K=>?_;simp only[kd,aa,Int.reduceLE,am,e4];apply K
   show bf _ _ _ _;refine aL fun _ K=>?_;simp(disch:=omega) only[kd,aO];apply K
   refine⟨g',by omega,aE ⟨rfl,rfl,rfl,by rw[q2];rfl,trivial⟩ ?_⟩;simp[wk,q1,q3]
  have hgj:=g.hj;have hgc:=g.hc;have hgl:=g.len;obtain⟨g',q1,q2⟩:=wO hx g hn;have e1:((i:Int)+(B.length:Int)).toNat=i+B.length:=by omega
  have e3:IntKind.u32.wrap (g.c:Int)=(g.c:Int):=by rw[sR];omega
  refine aC fun _ K=>?_;simp(disch:=omega) only[kd,bA];apply K
  refine bD rfl ?_;show bf _ _ _ _;have hz:=g.zero (i+B.length) (Nat.le_refl _) (by omega);refine aL fun _ K=>?_;simp(disch:=omega) only[kd,aa,ab,aO,e3,e1,hz,dG];apply K
  show bf _ _ _ _;refine aL fun _ K=>?_;simp(disch:=omega) only[kd,aO];apply K
  refine⟨g',by omega,aE ⟨rfl,rfl,rfl,by rw[q2];rfl,trivial⟩ ?_⟩;simp[wk,q1]
 have hfin:natV O=a.natAbs*b.natAbs:=by
  have:i=A.length:=by omega
  rw[val,this,List.take_length,vA,vB]
 have h4:=jE (!(decide (a<0)==decide (b<0))) O lmb (by omega);rw[hfin,Ef]at h4;refine aC fun _ K=>?_;simp(disch:=omega) only[kd,bA];apply K
 refine bD rfl ?_;show bf _ _ _ _;refine bf.weak (bC 18 (cY rfl)) ?_;have eT:List.take (A.length+B.length) O=O:=List.take_of_length_le (by omega);simp(disch:=omega) only[kd,tZ,ab,eT];refine aF [⟨6,_,_,_,h4⟩] [] fun _ K=>?_;simp(disch:=omega) only[kd,bA,tZ,aa,ab];apply K
 (refine aH ⟨.inr rfl,aG rfl ?_ rfl⟩;simp(disch:=omega) only[kd,Tryz.results21,ab,aa])
def dblL:List Nat->Nat->List Nat
 |[],b=>[b]
 |x::l,b=>(2*x+b)%4294967296::dblL l (x/2147483648)
theorem wT: ∀(l:List Nat) (b:Nat),Lmb l->b<=1->natV (dblL l b)=2*natV l+b
 |[],b,_,_=>by simp[dblL,natV]
 |x::l,b,hl,hb=>by
  rw[dO]at hl;have hx:=hl.1;simp only[dblL,natV,wT l (x/2147483648) hl.2 (by omega)];omega
theorem Ak: ∀(l:List Nat) (b:Nat),Lmb l->b<=1->Lmb (dblL l b)
 |[],b,_,hb=>by simp[dblL,Lmb];omega
 |x::l,b,hl,hb=>by
  rw[dO]at hl;have hx:=hl.1;rw[dblL,dO];exact⟨Nat.mod_lt _ (by omega),Ak l _ hl.2 (by omega)⟩
theorem zK: ∀(l:List Nat) (b:Nat),(dblL l b).length=l.length+1
 |[],b=>rfl
 |x::l,b=>by simp[dblL,zK l]
theorem q9 (a b n:Nat) (h:b<2^n):(a*2^n)|||b=a*2^n+b:=by
 have:=Nat.shiftLeft_add_eq_or_of_lt h a;rw[Nat.shiftLeft_eq]at this;exact this.symm
theorem sD (a b n:Nat) (h:b<2^n):b|||(a*2^n)=a*2^n+b:=by rw[Nat.or_comm,q9 a b n h]
theorem Qn (a b:Nat) (ha:a<4294967296) (hb:b<4294967296):IntKind.u32.wrap (((BitVec.ofInt IntKind.u32.bits (a:Int)|||BitVec.ofInt IntKind.u32.bits (b:Int)).toNat:Nat):Int)=((a|||b:Nat):Int):=by
 rw[sR];show(((BitVec.ofInt 32 (a:Int)|||BitVec.ofInt 32 (b:Int)).toNat%4294967296:Nat):Int)=_;rw[BitVec.toNat_or];have e: ∀x:Nat,x<4294967296->(BitVec.ofInt 32 (x:Int)).toNat=x:=fun x hx=>by rw[BitVec.toNat_ofInt];show((x:Int)%4294967296).toNat=x;omega
 rw[e a ha,e b hb,Nat.mod_eq_of_lt];exact Nat.or_lt_two_pow (n:=32) ha hb
theorem yr (a b:Nat) (ha:a<18446744073709551616) (hb:b<18446744073709551616):IntKind.u64.wrap (((BitVec.ofInt IntKind.u64.bits (a:Int)|||BitVec.ofInt IntKind.u64.bits (b:Int)).toNat:Nat):Int)=((a|||b:Nat):Int):=by
 rw[IntKind.wrap_u64];show((BitVec.ofInt 64 (a:Int)|||BitVec.ofInt 64 (b:Int)).toNat:Int)%_=_;rw[BitVec.toNat_or];have e: ∀x:Nat,x<18446744073709551616->(BitVec.ofInt 64 (x:Int)).toNat=x:=fun x hx=>by rw[BitVec.toNat_ofInt];show((x:Int)%18446744073709551616).toNat=x;omega
 rw[e a ha,e b hb];have:=Nat.or_lt_two_pow (n:=64) ha hb;generalize a|||b=c at*
 omega
theorem P6 (a b:Nat) (ha:a<4294967296) (hb:b<4294967296):IntKind.u32.wrap (((BitVec.ofInt IntKind.u32.bits (a:Int)&&&BitVec.ofInt IntKind.u32.bits (b:Int)).toNat:Nat):Int)=((a&&&b:Nat):Int):=by
 rw[sR];show(((BitVec.ofInt 32 (a:Int)&&&BitVec.ofInt 32 (b:Int)).toNat%4294967296:Nat):Int)=_;rw[BitVec.toNat_and];have e: ∀x:Nat,x<4294967296->(BitVec.ofInt 32 (x:Int)).toNat=x:=fun x hx=>by rw[BitVec.toNat_ofInt];show((x:Int)%4294967296).toNat=x;omega
 rw[e a ha,e b hb,Nat.mod_eq_of_lt];exact Nat.lt_of_le_of_lt Nat.and_le_left ha
structure QL (l:List Nat) (b:Nat) where
 i:Nat
 o:List Nat
 c:Nat
 hi:i<=l.length
 hc:c<=1
 ho:o.length=i
 h:o++dblL (l.drop i) c=dblL l b
theorem Ik (l:List Nat) (b:Nat) (lm:Lmb l) (hb:b<=1) (bl:l.length<=1073741824):CallC Tryz.prog 156 [bA l,.raw (.int .u32 (b:Int))] ⟨[],bA (dblL l b)⟩:=by
 refine aI Tryz.func156 rfl (by kernel_rfl) ?_;rw[Tryz.ntmps156];refine aC fun _ K=>?_;simp only[kd,bA,aa,ae];apply K
 refine aC fun _ K=>?_;simp only[kd];apply K
 refine aD (aC fun _ K=>?_);simp only[kd,aa];apply K;refine aT (G:=QL l b) (fun g=>⟨(bA l::.raw (.int .u32 (g.c:Int))::jk::jk::.raw (.slice none 0 0)::.one (.sl 20 0 0 g.o.length)::jk::jk::bA l::rN l.length::rN g.i::j16 (jk::[])),Hm [(20,[⟨79,1,lc fU g.o⟩])]⟩) (fun g=>l.length-g.i) ⟨0,[],b,by omega,hb,rfl,rfl⟩ ?_ ?_
 ·refine(fp (k:=5) (d:=20) 79 1 (by omega) rfl rfl).trans (aE ⟨rfl,trivial⟩ ?_);simp[wk]
 rintro⟨i,o,c,hi,hc,ho,h⟩;simp only;by_cases hm:i<l.length
 ·obtain⟨a,ha⟩:=getElem?_of_lt hm;have ha':=cu lm ha;have e1:IntKind.u32.wrap ((a:Int)*2^min 1 IntKind.u32.bits)=((2*a%4294967296:Nat):Int):=by
   rw[<- sR];congr 1;show(a:Int)*2=_;omega
  have e2:=Qn (2*a%4294967296) c (by omega) (by omega);have e3:(2*a%4294967296)|||c=(2*a+c)%4294967296:=by
   have:=q9 (a%2147483648) c 1 (by omega);rw[show 2*a%4294967296=a%2147483648*2^1 by omega,this];omega
  rw[e3]at e2;have e4:Int.fdiv (a:Int) (2^(min 31 IntKind.u32.bits))=((a/2147483648:Nat):Int):=by
   show Int.fdiv (a:Int) 2147483648=_;rw[Int.fdiv_eq_ediv_of_nonneg _ (by omega)];omega
  refine aC fun _ K=>?_;simp(disch:=omega) only[kd,bA];apply K
  refine bu rfl ?_;refine aD (aJ ?_);refine aC fun _ K=>?_;simp(disch:=omega) only[kd,aa,ha];apply K
  refine aC fun _ K=>?_;simp(disch:=omega) only[kd,aa,Int.reduceLE,am,e1,e2,Nat.reduceMul,ah,iO];apply K
  refine aL fun _ K=>?_;simp only[kd,aa,Int.reduceLE,am,e4];apply K
  show bf _ _ _ _;refine aL fun _ K=>?_;simp(disch:=omega) only[kd,aO];apply K
  refine⟨⟨i+1,o++[(2*a+c)%4294967296],a/2147483648,by omega,by omega,by simp[ho],?_⟩,by simp only;omega,aE ⟨rfl,trivial⟩ ?_⟩
  ·rw[<- h,eh ha,dblL,List.append_assoc];rfl
  simp[wk]
 refine aC fun _ K=>?_;simp(disch:=omega) only[kd,bA];apply K
 refine bD rfl ?_;show bf _ _ _ _;refine aC fun _ K=>?_;simp(disch:=omega) only[kd,aa,Nat.reduceMul,ah,iO];apply K
 have hfin:dblL l b=o++[c]:=by rw[<- h,dM (by omega:l.length<=i),dblL]
 (refine aH ⟨.inr rfl,kw 20 (cY rfl) ?_ rfl⟩;simp(disch:=omega) only[kd,Tryz.results156,bA])
 simp only[hfin];rw[List.take_of_length_le (by simp)]
structure PW (l:List Nat) where
 i:Nat
 u:Nat
 hi:i<=l.length/\i<=2
 hu:u=natV (l.take i)
theorem fm {l:List Nat} (h:Lmb l) (k:Nat):natV (l.take k)<4294967296^k:=by
 have h1:Lmb (l.take k):=fun a ha=>h a (List.mem_of_mem_take ha)
 have h2:=fP h1;exact Nat.lt_of_lt_of_le h2 (Nat.pow_le_pow_right (by omega) (by rw[List.length_take];omega))
theorem IT (l:List Nat) (lm:Lmb l) (bl:l.length<=1073741824):CallC Tryz.prog 122 [bA l] ⟨[],.raw (.int .u64 (natV (l.take 2):Nat))⟩:=by
 refine aI Tryz.func122 rfl (by kernel_rfl) ?_;rw[Tryz.ntmps122];refine aC fun _ K=>?_;simp only[kd,bA,ae];apply K
 refine aC fun _ K=>?_;simp only[kd];apply K
 refine aD (aC fun _ K=>?_);simp only[kd];apply K;refine aT (G:=PW l) (fun g=>⟨(bA l::jk::.raw (.int .u64 0)::.raw (.int .u64 (g.u:Int))::rN g.i::j16 (j4 (jk::[]))),Hm []⟩) (fun g=>l.length-g.i) ⟨0,0,⟨by omega,by omega⟩,rfl⟩ ?_ ?_
 ·refine aE trivial ?_;simp[wk]
 rintro⟨i,u,hi,hu⟩;simp only;have hlt:=fm lm i;rw[<- hu]at hlt;by_cases hm:i<l.length/\i<2
 ·obtain⟨a,ha⟩:=getElem?_of_lt hm.1;have ha':=cu lm ha;have hm2:=hm.2;have hm1:=hm.1;have hu2:=bJ ha;rw[<- hu]at hu2;refine aD (aC fun _ K=>?_);simp(disch:=omega) only[kd,aa,bA];apply K;refine aS rfl (aK ?_);refine aD (aJ ?_);have hi2:i=0\/i=1:=by omega
  rcases hi2 with rfl|rfl
  ·have e1:IntKind.u64.wrap ((a:Int)*2^min (32*((0:Nat):Int)).toNat IntKind.u64.bits)=(a:Int):=by
    rw[IntKind.wrap_u64];show((a:Int)*1)%_=_;omega
   have hu0:u=0:=by simpa[natV] using hu
   have e2:=yr u a (by omega) (by omega);rw[hu0,Nat.zero_or,<- hu0]at e2;refine aL fun _ K=>?_;simp(disch:=omega) only[kd,aa,ha,du,aO,e1,e2];apply K
   show bf _ _ _ _;refine aL fun _ K=>?_;simp(disch:=omega) only[kd,aa,aO];apply K
   refine⟨⟨1,a,⟨by omega,by omega⟩,by rw[hu2,hu0];simp⟩,by simp only;omega,aE trivial ?_⟩;simp[wk]
  have e1:IntKind.u64.wrap ((a:Int)*2^min (32*((1:Nat):Int)).toNat IntKind.u64.bits)=((a*4294967296:Nat):Int):=by
   rw[IntKind.wrap_u64];show((a:Int)*4294967296)%_=_;omega
  simp only[Nat.pow_one]at hlt;have e2:=yr u (a*4294967296) (by omega) (by omega);rw[show a*4294967296=a*2^32 from rfl,sD _ _ _ hlt,show a*2^32=a*4294967296 from rfl]at e2;refine aL fun _ K=>?_;simp(disch:=omega) only[kd,aa,ha,du,aO,e1,e2];apply K
  show bf _ _ _ _;refine aL fun _ K=>?_;simp(disch:=omega) only[kd,aa,aO];apply K
  refine⟨⟨2,a*4294967296+u,⟨by omega,by omega⟩,by rw[hu2];omega⟩,by simp only;omega,aE trivial ?_⟩;simp[wk]
 have hfin:u=natV (l.take 2):=by
  rw[hu];by_cases h2:i=2
  ·rw[h2]
  rw[List.take_of_length_le (by omega),List.take_of_length_le (by omega)]
 rw[<- hfin];by_cases h3:i<l.length
 ·refine aD (aC fun _ K=>?_);simp(disch:=omega) only[kd,aa,bA];apply K;refine aN rfl (bE ?_);show bf _ _ _ _;refine aC fun _ K=>?_;simp only[kd];apply K
  (refine aH ⟨.inr rfl,aG rfl ?_ rfl⟩;simp(disch:=omega) only[kd,Tryz.results122])
 refine aD (aC fun _ K=>?_);simp(disch:=omega) only[kd,aa,bA];apply K;refine aN rfl (bE ?_);show bf _ _ _ _;refine aC fun _ K=>?_;simp only[kd];apply K
 (refine aH ⟨.inr rfl,aG rfl ?_ rfl⟩;simp(disch:=omega) only[kd,Tryz.results122])
def iY (z:Int):TV:=if -9223372036854775808<=z/\z<=9223372036854775807 then .tup [(false,[.p (.raw (.int .i64 z))]),(false,[.p (.raw (.bool true))])]else .tup [(false,[.p (.raw (.int .i64 0))]),(false,[.p (.raw (.bool false))])]
theorem um {n:Nat} (h:2<(aQ n).length):18446744073709551616<=n:=by
 have h1:=tw (ce n) (by intro h0;rw[h0]at h;simp at h);rw[aP]at h1;have h2:4294967296^2<=4294967296^((aQ n).length-1):=Nat.pow_le_pow_right (by omega) (by omega);omega
theorem gI {n:Nat} (h:(aQ n).length<=2):n<18446744073709551616:=by
 have h1:=fP (aV n);rw[aP]at h1;have h2:4294967296^(aQ n).length<=4294967296^2:=Nat.pow_le_pow_right (by omega) h;omega
theorem Ld (z:Int) (h:Bg z):CallC Tryz.prog 88 [tZ z] ⟨[],iY z⟩:=by
 have ht:=i7 (aQ z.natAbs) h.len;rw[fY]at ht;have hw:=IT (aQ z.natAbs) (aV _) h.len;have hl:=h.len;by_cases h2:2<(aQ z.natAbs).length
 ·have hb:=um h2;rw[show iY z= .tup [(false,[.p (.raw (.int .i64 0))]),(false,[.p (.raw (.bool false))])] by unfold iY;rw[if_neg (by omega)]];refine aI Tryz.func88 rfl (by kernel_rfl) ?_;rw[Tryz.ntmps88];refine aC fun _ K=>?_;simp(disch:=omega) only[kd,aa,tZ,ae];apply K
  refine aF [⟨2,_,_,_,ht⟩] [] fun _ K=>?_;simp only[kd,bA,aa];apply K
  refine aF [⟨1,_,_,_,hw⟩] [] fun _ K=>?_;simp only[kd,bA,aa];apply K
  refine aD (aJ ?_);refine aC fun _ K=>?_;simp(disch:=omega) only[kd,aa];apply K
  refine aS rfl ?_;refine aC fun _ K=>?_;simp only[kd];apply K
  (refine aH ⟨.inr rfl,aG rfl ?_ rfl⟩;simp(disch:=omega) only[kd,Tryz.results88])
 have hb:=gI (n:=z.natAbs) (by omega);rw[List.take_of_length_le (by omega),aP]at hw;by_cases hz:z<0
 ·have e1:IntKind.i64.wrap (IntKind.u64.wrap (0-(z.natAbs:Int)))=z\/9223372036854775808<z.natAbs:=by
   rw[IntKind.wrap_u64];by_cases hz2:z.natAbs<=9223372036854775808
   ·left;have:(0-(z.natAbs:Int))%18446744073709551616=18446744073709551616+z:=by omega
    rw[this,IntKind.wrap_i64];omega
   right;omega
  by_cases hz2:z.natAbs<=9223372036854775808
  ·replace e1:=e1.resolve_right (by omega)
   rw[show iY z= .tup [(false,[.p (.raw (.int .i64 z))]),(false,[.p (.raw (.bool true))])] by unfold iY;rw[if_pos (by omega)]];refine aI Tryz.func88 rfl (by kernel_rfl) ?_;rw[Tryz.ntmps88];refine aC fun _ K=>?_;simp(disch:=omega) only[kd,aa,tZ,ae];apply K
   refine aF [⟨2,_,_,_,ht⟩] [] fun _ K=>?_;simp only[kd,bA,aa];apply K
   refine aF [⟨1,_,_,_,hw⟩] [] fun _ K=>?_;simp only[kd,bA,aa];apply K
   refine aD (aJ ?_);refine aC fun _ K=>?_;simp(disch:=omega) only[kd,aa];apply K
   refine aN rfl ?_;refine aC fun _ K=>?_;simp(disch:=omega) only[kd,aa];apply K
   refine aS rfl ?_;refine aC fun _ K=>?_;simp only[kd,aa,e1];apply K
   (refine aH ⟨.inr rfl,aG rfl ?_ rfl⟩;simp(disch:=omega) only[kd,Tryz.results88])
  rw[show iY z= .tup [(false,[.p (.raw (.int .i64 0))]),(false,[.p (.raw (.bool false))])] by unfold iY;rw[if_neg (by omega)]];refine aI Tryz.func88 rfl (by kernel_rfl) ?_;rw[Tryz.ntmps88];refine aC fun _ K=>?_;simp(disch:=omega) only[kd,aa,tZ,ae];apply K
  refine aF [⟨2,_,_,_,ht⟩] [] fun _ K=>?_;simp only[kd,bA,aa];apply K
  refine aF [⟨1,_,_,_,hw⟩] [] fun _ K=>?_;simp only[kd,bA,aa];apply K
  refine aD (aJ ?_);refine aC fun _ K=>?_;simp(disch:=omega) only[kd,aa];apply K
  refine aN rfl ?_;refine aC fun _ K=>?_;simp(disch:=omega) only[kd,aa];apply K
  refine aN rfl ?_;refine aC fun _ K=>?_;simp(disch:=omega) only[kd,aa];apply K
  refine aN rfl (aK ?_);show bf _ _ _ _;refine aC fun _ K=>?_;simp only[kd];apply K
  (refine aH ⟨.inr rfl,aG rfl ?_ rfl⟩;simp(disch:=omega) only[kd,Tryz.results88])
 by_cases hz2:z.natAbs<9223372036854775808
 ·have e1:IntKind.i64.wrap (z.natAbs:Int)=z:=by rw[IntKind.wrap_i64];omega
  rw[show iY z= .tup [(false,[.p (.raw (.int .i64 z))]),(false,[.p (.raw (.bool true))])] by unfold iY;rw[if_pos (by omega)]];refine aI Tryz.func88 rfl (by kernel_rfl) ?_;rw[Tryz.ntmps88];refine aC fun _ K=>?_;simp(disch:=omega) only[kd,aa,tZ,ae];apply K
  refine aF [⟨2,_,_,_,ht⟩] [] fun _ K=>?_;simp only[kd,bA,aa];apply K
  refine aF [⟨1,_,_,_,hw⟩] [] fun _ K=>?_;simp only[kd,bA,aa];apply K
  refine aD (aJ ?_);refine aC fun _ K=>?_;simp(disch:=omega) only[kd,aa];apply K
  refine aN rfl ?_;refine aC fun _ K=>?_;simp(disch:=omega) only[kd,aa];apply K
  refine aN rfl ?_;refine aC fun _ K=>?_;simp(disch:=omega) only[kd,aa];apply K
  refine aS rfl ?_;refine aC fun _ K=>?_;simp only[kd,aa,e1];apply K
  (refine aH ⟨.inr rfl,aG rfl ?_ rfl⟩;simp(disch:=omega) only[kd,Tryz.results88])
 rw[show iY z= .tup [(false,[.p (.raw (.int .i64 0))]),(false,[.p (.raw (.bool false))])] by unfold iY;rw[if_neg (by omega)]];refine aI Tryz.func88 rfl (by kernel_rfl) ?_;rw[Tryz.ntmps88];refine aC fun _ K=>?_;simp(disch:=omega) only[kd,aa,tZ,ae];apply K
 refine aF [⟨2,_,_,_,ht⟩] [] fun _ K=>?_;simp only[kd,bA,aa];apply K
 refine aF [⟨1,_,_,_,hw⟩] [] fun _ K=>?_;simp only[kd,bA,aa];apply K
 refine aD (aJ ?_);refine aC fun _ K=>?_;simp(disch:=omega) only[kd,aa];apply K
 refine aN rfl ?_;refine aC fun _ K=>?_;simp(disch:=omega) only[kd,aa];apply K
 refine aN rfl ?_;refine aC fun _ K=>?_;simp(disch:=omega) only[kd,aa];apply K
 refine aN rfl (aK ?_);show bf _ _ _ _;refine aC fun _ K=>?_;simp only[kd];apply K
 (refine aH ⟨.inr rfl,aG rfl ?_ rfl⟩;simp(disch:=omega) only[kd,Tryz.results88])
theorem o8: ∀{l:List Nat} {i x:Nat},Lmb l->l[i]?=some x->natV l/4294967296^i%4294967296=x
 |[],i,x,_,h=>by simp at h
 |a::l,0,x,hl,h=>by
  rw[dO]at hl;simp at h;subst h;have:=hl.1;simp only[natV,Nat.pow_zero];omega
 |a::l,i+1,x,hl,h=>by
  rw[dO]at hl;have ha:=hl.1;simp at h;have:=o8 hl.2 h;rw[Nat.pow_succ,Nat.mul_comm,<- Nat.div_div_eq_div_mul];simp only[natV];rw[show(a+4294967296*natV l)/4294967296=natV l by omega];exact this
theorem JC (i:Nat):4294967296^i=2^(32*i):=by rw[Nat.pow_mul]
theorem Fc {a k x:Nat} (h:(aQ a)[k/32]?=some x):x/2^(k%32)%2=a/2^k%2:=by
 have h1:=o8 (aV a) h;rw[aP,JC]at h1;rw[<- Nat.toNat_testBit,<- Nat.toNat_testBit,<- h1,show(4294967296:Nat)=2^32 from rfl,Nat.testBit_mod_two_pow,Nat.testBit_div_two_pow];rw[show k%32+32*(k/32)=k by omega];have:k%32<32:=by omega
 simp[this]
structure N6 (a b n:Nat) where
 t:Nat
 O:List Nat
 ht:t<=32*n
 len:O.length=n
 lmb:Lmb O
 val:natV O=a/2^t/b*2^t
theorem Qf (a k:Nat):a/2^k=2*(a/2^(k+1))+a/2^k%2:=by
 rw[Nat.pow_succ,<- Nat.div_div_eq_div_mul];omega
theorem Ih {a b k:Nat} (hb:0<b) (h:2*(a/2^(k+1)%b)+a/2^k%2<b):a/2^k/b=2*(a/2^(k+1)/b)/\a/2^k%b=2*(a/2^(k+1)%b)+a/2^k%2:=by
 have h1:=Qf a k;have h2:=Nat.div_add_mod (a/2^(k+1)) b;generalize a/2^(k+1)=X at*
 generalize a/2^k%2=e at*
 generalize X%b=r at*
 generalize X/b=q at*
 have h3:a/2^k=b*(2*q)+(2*r+e):=by rw[h1,<- h2,Nat.mul_left_comm b 2 q];omega
 rw[h3];exact⟨by rw[Nat.mul_add_div hb,Nat.div_eq_of_lt h,Nat.add_zero],by rw[Nat.mul_add_mod,Nat.mod_eq_of_lt h]⟩
theorem Ig {a b k:Nat} (hb:0<b) (h:b<=2*(a/2^(k+1)%b)+a/2^k%2):a/2^k/b=2*(a/2^(k+1)/b)+1/\a/2^k%b=2*(a/2^(k+1)%b)+a/2^k%2-b:=by
 have h1:=Qf a k;have h2:=Nat.div_add_mod (a/2^(k+1)) b;have hr:a/2^(k+1)%b<b:=Nat.mod_lt _ hb;have he:a/2^k%2<2:=Nat.mod_lt _ (by omega);generalize a/2^(k+1)=X at*
 generalize a/2^k%2=e at*
 generalize X%b=r at*
 generalize X/b=q at*
 have h3:a/2^k=b*(2*q+1)+(2*r+e-b):=by have:=Nat.mul_left_comm b 2 q;rw[h1,<- h2,Nat.mul_add b (2*q) 1,Nat.mul_one];omega
 have h4:2*r+e-b<b:=by omega
 rw[h3];exact⟨by rw[Nat.mul_add_div hb,Nat.div_eq_of_lt h4,Nat.add_zero],by rw[Nat.mul_add_mod,Nat.mod_eq_of_lt h4]⟩
theorem LN {a b n k:Nat} {O:List Nat} (hb:0<b) (ht:k+1<=32*n) (len:O.length=n) (lmb:Lmb O) (val:natV O=a/2^(k+1)/b*2^(k+1)) (h:2*(a/2^(k+1)%b)+a/2^k%2<b): ∃g:N6 a b n,g.t=k/\g.O=O:=
 ⟨⟨k,O,by omega,len,lmb,by rw[val,(Ih hb h).1,Nat.pow_succ,Nat.mul_comm 2,Nat.mul_assoc,Nat.mul_comm 2]⟩,rfl,rfl⟩
theorem LM {a b n k x:Nat} {O:List Nat} (hb:0<b) (ht:k+1<=32*n) (len:O.length=n) (lmb:Lmb O) (val:natV O=a/2^(k+1)/b*2^(k+1)) (h:b<=2*(a/2^(k+1)%b)+a/2^k%2) (hx:O[k/32]?=some x): ∃g:N6 a b n,g.t=k/\g.O=O.set (k/32) (x|||2^(k%32)):=by
 have hx':=cu lmb hx;have hj:k%32<32:=Nat.mod_lt _ (by omega);have hor:x|||2^(k%32)<4294967296:=Nat.or_lt_two_pow (n:=32) hx' (Nat.pow_lt_pow_right (by omega) hj);refine⟨⟨k,O.set (k/32) (x|||2^(k%32)),by omega,by simp[len],ye lmb hor,?_⟩,rfl,rfl⟩;have h1:=o8 lmb hx;have h2:=pU O (k/32) (x|||2^(k%32)) x hx;have ek:2^(k+1)=2^(32*(k/32))*2^(k%32+1):=by rw[<- Nat.pow_add];congr 1;omega
 rw[JC]at h1 h2;rw[(Ig hb h).1];generalize a/2^(k+1)/b=q at*
 have h3:x=q%2^(31-k%32)*2^(k%32+1):=by
  rw[<- h1,val,ek,Nat.mul_comm (2^(32*(k/32))),<- Nat.mul_assoc,Nat.mul_div_cancel _ (Nat.pow_pos (by omega))];rw[show(4294967296:Nat)=2^(31-k%32)*2^(k%32+1) by rw[<- Nat.pow_add,show 31-k%32+(k%32+1)=32 by omega],Nat.mul_mod_mul_right]
 have h4:x|||2^(k%32)=x+2^(k%32):=by
  have:=q9 (q%2^(31-k%32)) (2^(k%32)) (k%32+1) (Nat.pow_lt_pow_right (by omega) (by omega));rw[<- h3]at this;exact this
 rw[h4]at h2⊢;rw[Nat.add_mul,<- Nat.pow_add,show k%32+32*(k/32)=k by omega,val]at h2;have h5:(2*q+1)*2^k=q*2^(k+1)+2^k:=by rw[Nat.add_mul,Nat.one_mul,Nat.mul_comm 2 q,Nat.mul_assoc,Nat.mul_comm 2 (2^k),<- Nat.pow_succ]
 rw[h5];generalize natV (O.set (k/32) (x+2^(k%32)))=N at*
 generalize x*2^(32*(k/32))=U at*
 generalize q*2^(k+1)=V at*
 generalize 2^k=W at*
 omega
theorem wB {a n:Nat} (h:(aQ a).length=n):a/2^(32*n)=0:=by
 have:=fP (aV a);rw[aP,JC,h]at this;exact Nat.div_eq_of_lt this
end Go.Proofs.YtfgeomlagfomgaaGreatDoor
