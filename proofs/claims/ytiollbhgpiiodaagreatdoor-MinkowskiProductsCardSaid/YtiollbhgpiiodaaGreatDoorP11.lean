/-
  Part 12 of a proof (walks and plain facts).
-/
import Derived.Test.YtiollbhgpiiodaaGreatDoorP10
set_option linter.all false
set_option maxRecDepth 100000
set_option maxHeartbeats 64000000
open Nat renaming reduceAdd → aa
open Nat renaming reduceEqDiff → ae
open List renaming replicate → ag
open Nat renaming reduceBEq → ah
open Nat renaming reduceLeDiff → aj
open Int renaming reduceToNat → ao
namespace Go.Proofs.YtiollbhgpiiodaaGreatDoor
open Go.RowKit
def sumL:List Nat->List Nat->Nat->List Nat
 |[],[],c=>[c]
 |a::m,[],c=>(c+a)%4294967296::sumL m [] ((c+a)/4294967296)
 |[],b::n,c=>(c+b)%4294967296::sumL [] n ((c+b)/4294967296)
 |a::m,b::n,c=>(c+a+b)%4294967296::sumL m n ((c+a+b)/4294967296)
theorem kv: ∀(m n:List Nat) (c:Nat),natV (sumL m n c)=natV m+natV n+c
 |[],[],c=>by simp[sumL,natV]
 |a::m,[],c=>by simp only[sumL,natV,kv m []];omega
 |[],b::n,c=>by simp only[sumL,natV,kv [] n];omega
 |a::m,b::n,c=>by simp only[sumL,natV,kv m n];omega
theorem dA {a:Nat} {l:List Nat}:Lmb (a::l)↔a<4294967296/\Lmb l:=by simp[Lmb]
theorem mw: ∀(m n:List Nat) (c:Nat),Lmb m->Lmb n->c<=1->Lmb (sumL m n c)
 |[],[],c,_,_,hc=>by simp[sumL,Lmb];omega
 |a::m,[],c,hm,hn,hc=>by
  rw[dA]at hm;rw[sumL,dA];exact⟨Nat.mod_lt _ (by omega),mw m [] _ hm.2 hn (by omega)⟩
 |[],b::n,c,hm,hn,hc=>by
  rw[dA]at hn;rw[sumL,dA];exact⟨Nat.mod_lt _ (by omega),mw [] n _ hm hn.2 (by omega)⟩
 |a::m,b::n,c,hm,hn,hc=>by
  rw[dA]at hm hn;rw[sumL,dA];exact⟨Nat.mod_lt _ (by omega),mw m n _ hm.2 hn.2 (by omega)⟩
theorem mT: ∀(m n:List Nat) (c:Nat),(sumL m n c).length=max m.length n.length+1
 |[],[],c=>by simp[sumL]
 |a::m,[],c=>by simp[sumL,mT m []]
 |[],b::n,c=>by simp[sumL,mT [] n]
 |a::m,b::n,c=>by simp[sumL,mT m n]
theorem dQ {l:List Nat} {i a:Nat} (h:l[i]?=some a):l.drop i=a::l.drop (i+1):=by
 obtain⟨h1,rfl⟩:=List.getElem?_eq_some_iff.1 h;exact List.drop_eq_getElem_cons h1
theorem dz {l:List Nat} {i:Nat} (h:l.length<=i):l.drop i=[]:=List.drop_eq_nil_iff.2 h
theorem ck {l:List Nat} {i a:Nat} (hl:Lmb l) (h:l[i]?=some a):a<4294967296:=hl a (List.mem_of_getElem? h)
theorem r8 (x:Nat):IntKind.u32.wrap (x:Int)=((x%4294967296:Nat):Int):=by rw[IntKind.wrap_u32];omega
theorem F1 (x:Nat):(x:Int).fdiv (2^(min 32 IntKind.u64.bits))=((x/4294967296:Nat):Int):=by
 show Int.fdiv (x:Int) 4294967296=_;rw[Int.fdiv_eq_ediv_of_nonneg _ (by omega)];omega
structure Qd (m n:List Nat) where
 i:Nat
 o:List Nat
 c:Nat
 hi:i<=max m.length n.length
 hc:c<=1
 ho:o.length=i
 h:o++sumL (m.drop i) (n.drop i) c=sumL m n 0
theorem Pz (m n:List Nat) (lm:Lmb m) (ln:Lmb n) (bm:m.length<=1073741824) (bn:n.length<=1073741824):
  CallC Tryz.prog 96 [bC m,bC n] ⟨[],bC (sumL m n 0)⟩:=by
 refine aJ Tryz.func96 rfl (by kernel_rfl) ?_;rw[Tryz.ntmps96];refine aF fun _ K=>?_;simp only[kd,bC,aa,ag];apply K
 refine aF fun _ K=>?_;simp only[kd];apply K
 refine aF fun _ K=>?_;simp only[kd];apply K
 refine aH (aF fun _ K=>?_);simp only[kd];apply K;refine aZ (G:=Qd m n) (fun g=>⟨(bC m::bC n::jk::jk::.raw (.slice none 0 0)::.one (.sl 46 0 0 g.o.length)::.raw (.int .u64 (g.c:Int))::rN g.i::j16 (j16 (j4 (j4 (j4 (jk::jk::[])))))),Hm [(46,[⟨56,1,lc fU g.o⟩])]⟩) (fun g=>max m.length n.length-g.i) ⟨0,[],0,by omega,by omega,rfl,rfl⟩ ?_ ?_
 ·refine(eK (k:=5) (d:=46) 56 1 (by omega) rfl rfl).trans (aG ⟨rfl,trivial⟩ ?_);simp[wk]
 rintro⟨i,o,c,hi,hc,ho,h⟩;simp only;have hmx:max m.length n.length<=1073741824:=by omega
 by_cases hm:i<m.length
 ·obtain⟨a,ha⟩:=getElem?_of_lt hm;have ha':=ck lm ha;refine aH (aF fun _ K=>?_);simp(disch:=omega) only[kd,aa,bC,reduceCtorEq];apply K;refine bf rfl (aO ?_);refine aH (aM ?_);refine aH (aF fun _ K=>?_);simp(disch:=omega) only[kd,aa];apply K;refine bf rfl ?_;refine aN fun _ K=>?_;simp(disch:=omega) only[kd,aa,ha,cX];apply K
  show bu _ _ _ _;refine aH (aF fun _ K=>?_);simp only[kd,aa];apply K;by_cases hn:i<n.length
  ·obtain⟨b,hb⟩:=getElem?_of_lt hn;have hb':=ck ln hb;refine bU rfl (fun _=>?_) (fun h=>by simp at h<;>omega);refine aN fun _ K=>?_;simp(disch:=omega) only[kd,aa,hb,cX];apply K
   show bu _ _ _ _;have e1:IntKind.u32.wrap ((c:Int)+(a:Int)+(b:Int))=(((c+a+b)%4294967296:Nat):Int):=by rw[<- r8];congr 1<;>omega
   have e2:Int.fdiv ((c:Int)+(a:Int)+(b:Int)) (2^(min 32 IntKind.u64.bits))=(((c+a+b)/4294967296:Nat):Int):=by rw[<- F1];congr 1<;>omega
   refine aF fun _ K=>?_;simp(disch:=omega) only[kd,aa,e1,Nat.reduceMul,aj,ir];apply K
   refine aN fun _ K=>?_;simp only[kd,aa,Int.reduceLE,ao,e2];apply K
   show bu _ _ _ _;refine aN fun _ K=>?_;simp(disch:=omega) only[kd,aa,aT];apply K
   refine⟨⟨i+1,o++[(c+a+b)%4294967296],(c+a+b)/4294967296,by omega,by omega,by simp[ho],?_⟩,by simp only;omega,aG ⟨rfl,trivial⟩ ?_⟩
   ·rw[<- h,dQ ha,dQ hb,sumL,List.append_assoc];rfl
   simp[wk]
  refine bU rfl (fun h=>by simp at h<;>omega) (fun _=>aO ?_);show bu _ _ _ _;have e1:IntKind.u32.wrap ((c:Int)+(a:Int))=(((c+a)%4294967296:Nat):Int):=by rw[<- r8];congr 1<;>omega
  have e2:Int.fdiv ((c:Int)+(a:Int)) (2^(min 32 IntKind.u64.bits))=(((c+a)/4294967296:Nat):Int):=by rw[<- F1];congr 1<;>omega
  refine aF fun _ K=>?_;simp(disch:=omega) only[kd,aa,e1,Nat.reduceMul,aj,ir];apply K
  refine aN fun _ K=>?_;simp only[kd,aa,Int.reduceLE,ao,e2];apply K
  show bu _ _ _ _;refine aN fun _ K=>?_;simp(disch:=omega) only[kd,aa,aT];apply K
  refine⟨⟨i+1,o++[(c+a)%4294967296],(c+a)/4294967296,by omega,by omega,by simp[ho],?_⟩,by simp only;omega,aG ⟨rfl,trivial⟩ ?_⟩
  ·rw[<- h,dQ ha,dz (by omega:n.length<=i),dz (by omega:n.length<=i+1),sumL,List.append_assoc];rfl
  simp[wk]
 by_cases hn:i<n.length
 ·obtain⟨b,hb⟩:=getElem?_of_lt hn;have hb':=ck ln hb;refine aH (aF fun _ K=>?_);simp(disch:=omega) only[kd,aa,bC];apply K;refine bf rfl (aO ?_);refine aH (aM ?_);refine aH (aF fun _ K=>?_);simp(disch:=omega) only[kd,aa];apply K;refine aU rfl (aO ?_);show bu _ _ _ _;refine aH (aF fun _ K=>?_);simp(disch:=omega) only[kd,aa];apply K;refine bf rfl ?_;refine aN fun _ K=>?_;simp(disch:=omega) only[kd,aa,hb,cX];apply K
  show bu _ _ _ _;have e1:IntKind.u32.wrap ((c:Int)+(b:Int))=(((c+b)%4294967296:Nat):Int):=by rw[<- r8];congr 1<;>omega
  have e2:Int.fdiv ((c:Int)+(b:Int)) (2^(min 32 IntKind.u64.bits))=(((c+b)/4294967296:Nat):Int):=by rw[<- F1];congr 1<;>omega
  refine aF fun _ K=>?_;simp(disch:=omega) only[kd,aa,e1,Nat.reduceMul,aj,ir];apply K
  refine aN fun _ K=>?_;simp only[kd,aa,Int.reduceLE,ao,e2];apply K
  show bu _ _ _ _;refine aN fun _ K=>?_;simp(disch:=omega) only[kd,aa,aT];apply K
  refine⟨⟨i+1,o++[(c+b)%4294967296],(c+b)/4294967296,by omega,by omega,by simp[ho],?_⟩,by simp only;omega,aG ⟨rfl,trivial⟩ ?_⟩
  ·rw[<- h,dQ hb,dz (by omega:m.length<=i),dz (by omega:m.length<=i+1),sumL,List.append_assoc];rfl
  simp[wk]
 refine aH (aF fun _ K=>?_);simp(disch:=omega) only[kd,aa,bC];apply K;refine aU rfl (bK ?_);show bu _ _ _ _;have e1:IntKind.u32.wrap (c:Int)=(c:Int):=by rw[r8];omega
 refine aF fun _ K=>?_;simp(disch:=omega) only[kd,aa,e1,Nat.reduceMul,aj,ir];apply K
 have hfin:sumL m n 0=o++[c]:=by rw[<- h,dz (by omega:m.length<=i),dz (by omega:n.length<=i),sumL]
 (refine aK ⟨.inr rfl,lI 46 (cJ rfl) ?_ rfl⟩;simp(disch:=omega) only[kd,Tryz.results96,bC])
 simp only[hfin];rw[List.take_of_length_le (by simp)]
def diffL:List Nat->List Nat->Nat->List Nat
 |[],_,_=>[]
 |a::m,[],w=>(a+8589934592-w)%4294967296::diffL m [] (if a<w then 1 else 0)
 |a::m,b::n,w=>(a+8589934592-(w+b))%4294967296::diffL m n (if a<w+b then 1 else 0)
theorem gY: ∀(m n:List Nat) (w:Nat),Lmb m->Lmb n->w<=1->n.length<=m.length->natV n+w<=natV m->natV (diffL m n w)+(natV n+w)=natV m
 |[],[],w,_,_,_,_,h=>by simp[diffL,natV]at*;omega
 |[],b::n,w,_,_,_,h,_=>by simp at h
 |a::m,[],w,hm,hn,hw,hl,h=>by
  rw[dA]at hm;simp only[natV]at h;have:=gY m [] (if a<w then 1 else 0) hm.2 hn (by split<;>omega) (by simp) (by simp only[natV];split<;>omega);simp only[diffL,natV]at this⊢;split at this<;>rename_i hlt<;>simp only[hlt,if_true,if_false]<;>omega
 |a::m,b::n,w,hm,hn,hw,hl,h=>by
  rw[dA]at hm hn;simp only[natV]at h;have:=gY m n (if a<w+b then 1 else 0) hm.2 hn.2 (by split<;>omega) (by simpa using hl) (by split<;>omega);simp only[diffL,natV]at this⊢;split at this<;>rename_i hlt<;>simp only[hlt,if_true,if_false]<;>omega
theorem iY: ∀(m n:List Nat) (w:Nat),Lmb (diffL m n w)
 |[],n,w=>by simp[diffL,Lmb]
 |a::m,[],w=>by rw[diffL,dA];exact⟨Nat.mod_lt _ (by omega),iY m [] _⟩
 |a::m,b::n,w=>by rw[diffL,dA];exact⟨Nat.mod_lt _ (by omega),iY m n _⟩
theorem iW: ∀(m n:List Nat) (w:Nat),(diffL m n w).length=m.length
 |[],n,w=>by simp[diffL]
 |a::m,[],w=>by simp[diffL,iW m []]
 |a::m,b::n,w=>by simp[diffL,iW m n]
structure OZ (m n:List Nat) where
 i:Nat
 o:List Nat
 c:Nat
 hi:i<=m.length
 hc:c<=1
 ho:o.length=i
 h:o++diffL (m.drop i) (n.drop i) c=diffL m n 0
theorem lh (m n:List Nat) (lm:Lmb m) (ln:Lmb n) (bm:m.length<=1073741824) (bn:n.length<=1073741824):
  CallC Tryz.prog 97 [bC m,bC n] ⟨[],bC (diffL m n 0)⟩:=by
 refine aJ Tryz.func97 rfl (by kernel_rfl) ?_;rw[Tryz.ntmps97];refine aF fun _ K=>?_;simp only[kd,bC,aa,ag];apply K
 refine aF fun _ K=>?_;simp only[kd];apply K
 refine aF fun _ K=>?_;simp only[kd];apply K
 refine aH (aF fun _ K=>?_);simp only[kd];apply K;refine aZ (G:=OZ m n) (fun g=>⟨(bC m::bC n::jk::jk::.raw (.slice none 0 0)::.one (.sl 37 0 0 g.o.length)::.raw (.int .u64 (g.c:Int))::rN g.i::j16 (j16 (j4 (jk::jk::[])))),Hm [(37,[⟨56,1,lc fU g.o⟩])]⟩) (fun g=>m.length-g.i) ⟨0,[],0,by omega,by omega,rfl,rfl⟩ ?_ ?_
 ·refine(eK (k:=5) (d:=37) 56 1 (by omega) rfl rfl).trans (aG ⟨rfl,trivial⟩ ?_);simp[wk]
 rintro⟨i,o,c,hi,hc,ho,h⟩;simp only;by_cases hm:i<m.length
 ·obtain⟨a,ha⟩:=getElem?_of_lt hm;have ha':=ck lm ha;refine aH (aF fun _ K=>?_);simp(disch:=omega) only[kd,aa,bC];apply K;refine bf rfl (aO ?_);refine aH (aM ?_);refine aF fun _ K=>?_;simp only[kd];apply K
  refine aH (aF fun _ K=>?_);simp only[kd,aa];apply K;by_cases hn:i<n.length
  ·obtain⟨b,hb⟩:=getElem?_of_lt hn;have hb':=ck ln hb;refine bU rfl (fun _=>?_) (fun h=>by simp at h<;>omega);refine aN fun _ K=>?_;simp(disch:=omega) only[kd,aa,hb,cX];apply K
   show bu _ _ _ _;have e1:IntKind.u32.wrap (IntKind.u64.wrap ((a:Int)-((c:Int)+(b:Int))))=(((a+8589934592-(c+b))%4294967296:Nat):Int):=by rw[IntKind.wrap_u32,IntKind.wrap_u64];omega
   refine aF fun _ K=>?_;simp(disch:=omega) only[kd,aa,ha,cX,e1,Nat.reduceMul,aj,ir];apply K
   refine aF fun _ K=>?_;simp only[kd];apply K
   refine aF fun _ K=>?_;simp(disch:=omega) only[kd,aa,ha,cX];apply K
   by_cases hlt:a<c+b
   ·refine bU rfl (fun _=>?_) (fun h=>by simp at h<;>omega);refine aN fun _ K=>?_;simp(disch:=omega) only[kd];apply K
    show bu _ _ _ _;refine aN fun _ K=>?_;simp(disch:=omega) only[kd,aa,aT];apply K
    refine⟨⟨i+1,o++[(a+8589934592-(c+b))%4294967296],1,by omega,by omega,by simp[ho],?_⟩,by simp only;omega,aG ⟨rfl,trivial⟩ ?_⟩
    ·rw[<- h,dQ ha,dQ hb,diffL,List.append_assoc,if_pos hlt];rfl
    simp[wk]
   refine bU rfl (fun h=>by simp at h<;>omega) (fun _=>aO ?_);show bu _ _ _ _;refine aN fun _ K=>?_;simp(disch:=omega) only[kd,aa,cX,aT];apply K
   refine⟨⟨i+1,o++[(a+8589934592-(c+b))%4294967296],0,by omega,by omega,by simp[ho],?_⟩,by simp only;omega,aG ⟨rfl,trivial⟩ ?_⟩
   ·rw[<- h,dQ ha,dQ hb,diffL,List.append_assoc,if_neg hlt];rfl
   simp[wk]
  refine bU rfl (fun h=>by simp at h<;>omega) (fun _=>aO ?_);show bu _ _ _ _;have e1:IntKind.u32.wrap (IntKind.u64.wrap ((a:Int)-(c:Int)))=(((a+8589934592-c)%4294967296:Nat):Int):=by rw[IntKind.wrap_u32,IntKind.wrap_u64];omega
  refine aF fun _ K=>?_;simp(disch:=omega) only[kd,aa,ha,cX,e1,Nat.reduceMul,aj,ir];apply K
  refine aF fun _ K=>?_;simp only[kd];apply K
  refine aF fun _ K=>?_;simp(disch:=omega) only[kd,aa,ha,cX];apply K
  by_cases hlt:a<c
  ·refine bU rfl (fun _=>?_) (fun h=>by simp at h<;>omega);refine aN fun _ K=>?_;simp(disch:=omega) only[kd];apply K
   show bu _ _ _ _;refine aN fun _ K=>?_;simp(disch:=omega) only[kd,aa,aT];apply K
   refine⟨⟨i+1,o++[(a+8589934592-c)%4294967296],1,by omega,by omega,by simp[ho],?_⟩,by simp only;omega,aG ⟨rfl,trivial⟩ ?_⟩
   ·rw[<- h,dQ ha,dz (by omega:n.length<=i),dz (by omega:n.length<=i+1),diffL,List.append_assoc,if_pos hlt];rfl
   simp[wk]
  refine bU rfl (fun h=>by simp at h<;>omega) (fun _=>aO ?_);show bu _ _ _ _;refine aN fun _ K=>?_;simp(disch:=omega) only[kd,aa,cX,aT];apply K
  refine⟨⟨i+1,o++[(a+8589934592-c)%4294967296],0,by omega,by omega,by simp[ho],?_⟩,by simp only;omega,aG ⟨rfl,trivial⟩ ?_⟩
  ·rw[<- h,dQ ha,dz (by omega:n.length<=i),dz (by omega:n.length<=i+1),diffL,List.append_assoc,if_neg hlt];rfl
  simp[wk]
 refine aH (aF fun _ K=>?_);simp(disch:=omega) only[kd,aa,bC];apply K;refine aU rfl (bK ?_);show bu _ _ _ _;refine aF fun _ K=>?_;simp only[kd];apply K
 have hfin:diffL m n 0=o:=by rw[<- h,dz (by omega:m.length<=i),diffL];simp
 (refine aK ⟨.inr rfl,lI 37 (cJ rfl) ?_ rfl⟩;simp(disch:=omega) only[kd,Tryz.results97,bC])
 simp only[hfin];rw[List.take_of_length_le (by simp)]
abbrev Bh (z:Int):Prop:=Sz z 536870912
theorem Bh.bg {z:Int} (h:Bh z):Bg z:=h.mono (by omega)
theorem Bh.len {z:Int} (h:Bh z):(aR z.natAbs).length<=536870912:=iX h
theorem Sz.neg {z:Int} {k:Nat} (h:Sz z k):Sz (-z) k:=by unfold Sz;rw[Int.natAbs_neg];exact h
theorem Bh.neg {z:Int} (h:Bh z):Bh (-z):=Sz.neg h
theorem Gz {a b:Int} (h:decide (a<0)=decide (b<0)):fD (decide (a<0)) (a.natAbs+b.natAbs)=a+b:=by
 unfold fD;by_cases ha:a<0<;>by_cases hb:b<0<;>simp[ha,hb]at h⊢ <;>omega
theorem yF {a b:Int} (h:decide (a<0)≠decide (b<0)) (hle:b.natAbs<=a.natAbs) {d:Nat} (hd:d+(b.natAbs+0)=a.natAbs):fD (decide (a<0)) d=a+b:=by
 unfold fD;by_cases ha:a<0<;>by_cases hb:b<0<;>simp[ha,hb]at h⊢ <;>omega
theorem iy {l m:List Nat} (hl:Lmb l) (cm:nX m) (h:natV m<=natV l):m.length<=l.length:=by
 by_cases hc:m.length<=l.length
 ·exact hc
 have:=iz hl cm (by omega);omega
theorem ve (a b:Int) (ha:Bh a) (hb:Bh b):CallC Tryz.prog 63 [tZ a,tZ b] ⟨[],tZ (a+b)⟩:=by
 have la:=ha.len;have lb:=hb.len;have t1:=iN (aR a.natAbs) ha.bg.len;have t2:=iN (aR b.natAbs) hb.bg.len;rw[gJ]at t1 t2;by_cases hs:decide (a<0)=decide (b<0)
 ·have h3:=Pz (aR a.natAbs) (aR b.natAbs) (aV _) (aV _) (by omega) (by omega);have h4:=jl (decide (a<0)) (sumL (aR a.natAbs) (aR b.natAbs) 0) (mw _ _ _ (aV _) (aV _) (by omega)) (by rw[mT];omega);rw[kv,aP,aP,Nat.add_zero,Gz hs]at h4;have hs':(decide (a<0)==decide (b<0))=true:=by simp[hs]
  refine aJ Tryz.func63 rfl (by kernel_rfl) ?_;rw[Tryz.ntmps63];refine aF fun _ K=>?_;simp(disch:=omega) only[kd,aa,tZ,ag,ae];apply K
  refine bz bj [⟨2,_,_,_,t1⟩,⟨5,_,_,_,t2⟩] [] (by kernel_rfl) fun _ K=>?_;simp(disch:=omega) only[kd,bC,aa,ae,ah];apply K
  refine aH (aF fun _ K=>?_);simp(disch:=omega) only[kd,aa,ae,hs'];apply K;refine bf rfl ?_;refine bz bj [⟨4,_,_,_,h3⟩,⟨5,_,_,_,h4⟩] [] (by kernel_rfl) fun _ K=>?_;simp(disch:=omega) only[kd,bC,tZ,aa,ae,ah];apply K
  (refine aK ⟨.inr rfl,aL rfl ?_ rfl⟩;simp(disch:=omega) only[kd,Tryz.results63,ae,aa,tZ])
 have hs':(decide (a<0)==decide (b<0))=false:=by simpa using hs
 have h3:=CY (aR a.natAbs) (aR b.natAbs) (aV _) (aV _) (cd _) (cd _) (by omega) (by omega);rw[aP,aP]at h3;by_cases hle:b.natAbs<=a.natAbs
 ·have hge:0<=fB a.natAbs b.natAbs:=by unfold fB;split<;>(try split)<;>omega
  have h4:=lh (aR a.natAbs) (aR b.natAbs) (aV _) (aV _) (by omega) (by omega);have h5:=jl (decide (a<0)) (diffL (aR a.natAbs) (aR b.natAbs) 0) (iY _ _ _) (by rw[iW];omega);have hd:=gY (aR a.natAbs) (aR b.natAbs) 0 (aV _) (aV _) (by omega) (iy (aV _) (cd _) (by rw[aP,aP];exact hle)) (by rw[aP,aP];exact hle);rw[aP,aP]at hd;rw[yF hs hle hd]at h5;refine aJ Tryz.func63 rfl (by kernel_rfl) ?_;rw[Tryz.ntmps63];refine aF fun _ K=>?_;simp(disch:=omega) only[kd,aa,tZ,ag,ae];apply K
  refine bz bj [⟨2,_,_,_,t1⟩,⟨5,_,_,_,t2⟩] [] (by kernel_rfl) fun _ K=>?_;simp(disch:=omega) only[kd,bC,aa,ae,ah];apply K
  refine aH (aF fun _ K=>?_);simp(disch:=omega) only[kd,aa,ae,hs'];apply K;refine aU rfl (aO ?_);show bu _ _ _ _;refine aH (aI [⟨2,_,_,_,h3⟩] [] fun _ K=>?_);simp(disch:=omega) only[kd,bC,aa];apply K;refine bf rfl ?_;refine bz bj [⟨4,_,_,_,h4⟩,⟨5,_,_,_,h5⟩] [] (by kernel_rfl) fun _ K=>?_;simp(disch:=omega) only[kd,bC,tZ,aa,ae,ah];apply K
  (refine aK ⟨.inr rfl,aL rfl ?_ rfl⟩;simp(disch:=omega) only[kd,Tryz.results63,ae,aa,tZ])
 have hge:fB a.natAbs b.natAbs<0:=by unfold fB;split<;>(try split)<;>omega
 have h4:=lh (aR b.natAbs) (aR a.natAbs) (aV _) (aV _) (by omega) (by omega);have h5:=jl (decide (b<0)) (diffL (aR b.natAbs) (aR a.natAbs) 0) (iY _ _ _) (by rw[iW];omega);have hd:=gY (aR b.natAbs) (aR a.natAbs) 0 (aV _) (aV _) (by omega) (iy (aV _) (cd _) (by rw[aP,aP];omega)) (by rw[aP,aP];omega);rw[aP,aP]at hd;rw[yF (fun h=>hs h.symm) (by omega) hd,Int.add_comm]at h5;refine aJ Tryz.func63 rfl (by kernel_rfl) ?_;rw[Tryz.ntmps63];refine aF fun _ K=>?_;simp(disch:=omega) only[kd,aa,tZ,ag,ae];apply K
 refine bz bj [⟨2,_,_,_,t1⟩,⟨5,_,_,_,t2⟩] [] (by kernel_rfl) fun _ K=>?_;simp(disch:=omega) only[kd,bC,aa,ae,ah];apply K
 refine aH (aF fun _ K=>?_);simp(disch:=omega) only[kd,aa,ae,hs'];apply K;refine aU rfl (aO ?_);show bu _ _ _ _;refine aH (aI [⟨2,_,_,_,h3⟩] [] fun _ K=>?_);simp(disch:=omega) only[kd,bC,aa];apply K;refine aU rfl (aO ?_);show bu _ _ _ _;refine bz bj [⟨4,_,_,_,h4⟩,⟨5,_,_,_,h5⟩] [] (by kernel_rfl) fun _ K=>?_;simp(disch:=omega) only[kd,bC,tZ,aa,ae,ah];apply K
 (refine aK ⟨.inr rfl,aL rfl ?_ rfl⟩;simp(disch:=omega) only[kd,Tryz.results63,ae,aa,tZ])
theorem MC (a b:Int) (ha:Bh a) (hb:Bh b):CallC Tryz.prog 27 [tZ a,tZ b] ⟨[],tZ (a-b)⟩:=by
 have h1:=H8 b hb.bg;have h2:=ve a (-b) ha hb.neg;rw[<- Int.sub_eq_add_neg]at h2;refine aJ Tryz.func27 rfl (by kernel_rfl) ?_;rw[Tryz.ntmps27];refine aF fun _ K=>?_;simp(disch:=omega) only[kd,aa,tZ,ag,ae];apply K
 refine bz bj [⟨2,_,_,_,h1⟩,⟨3,_,_,_,h2⟩] [] (by kernel_rfl) fun _ K=>?_;simp(disch:=omega) only[kd,tZ,aa,ae,ah];apply K
 (refine aK ⟨.inr rfl,aL rfl ?_ rfl⟩;simp(disch:=omega) only[kd,Tryz.results27,ae,aa,tZ])
theorem pn: ∀(l:List Nat) (k v o:Nat),l[k]?=some o->natV (l.set k v)+o*4294967296^k=natV l+v*4294967296^k
 |[],k,v,o,h=>by simp at h
 |a::l,0,v,o,h=>by simp at h;subst h;simp[natV];omega
 |a::l,k+1,v,o,h=>by
  simp at h;have:=pn l k v o h;simp only[List.set_cons_succ,natV,Nat.pow_succ];have e1:o*(4294967296^k*4294967296)=4294967296*(o*4294967296^k):=by rw[<- Nat.mul_assoc,Nat.mul_comm]
  have e2:v*(4294967296^k*4294967296)=4294967296*(v*4294967296^k):=by rw[<- Nat.mul_assoc,Nat.mul_comm]
  rw[e1,e2];omega
theorem xw {l:List Nat} (h:Lmb l) {k v:Nat} (hv:v<4294967296):Lmb (l.set k v):=fun a ha=>by
 rcases List.mem_or_eq_of_mem_set ha with ha|rfl
 ·exact h a ha
 exact hv
theorem tG (n:Nat):natV (ag n 0)=0:=by induction n with
 |zero=>rfl
 |succ n ih=>simp[List.replicate_succ,natV,ih]
theorem bG {l:List Nat} {i a:Nat} (h:l[i]?=some a):natV (l.take (i+1))=natV (l.take i)+a*4294967296^i:=by
 obtain⟨h1,rfl⟩:=List.getElem?_eq_some_iff.1 h;rw[List.take_succ_eq_append_getElem h1,iw,List.length_take,Nat.min_eq_left (by omega)];simp[natV,Nat.mul_comm]
theorem lA (n:Nat):ag n [AV.p (.raw (.int .u32 0))]=lc fU (ag n 0):=by simp[lc,fU]
theorem dv (l:List Nat) (k v:Nat):(lc fU l).set k [AV.p (.raw (.int .u32 (v:Int)))]=lc fU (l.set k v):=by simp[lc,fU,List.map_set]
structure D7 (A B:List Nat) where
 i:Nat
 O:List Nat
 hi:i<=A.length
 len:O.length=A.length+B.length
 lmb:Lmb O
 val:natV O=natV (A.take i)*natV B
 zero: ∀k,i+B.length<=k->k<A.length+B.length->O[k]?=some 0
structure Gd (A B:List Nat) (i a:Nat) where
 j:Nat
 O:List Nat
 c:Nat
 hj:j<=B.length
 len:O.length=A.length+B.length
 lmb:Lmb O
 hc:c<4294967296
 val:natV O+c*4294967296^(i+j)=natV (A.take i)*natV B+a*natV (B.take j)*4294967296^i
 zero: ∀k,i+B.length<=k->k<A.length+B.length->O[k]?=some 0
theorem nA {a b:Nat} (ha:a<4294967296) (hb:b<4294967296):a*b<=18446744065119617025:=by
 have:a*b<=4294967295*4294967295:=Nat.mul_le_mul (by omega) (by omega);omega
theorem vV {A B:List Nat} {i a:Nat} (g:Gd A B i a) {y o:Nat} (hy:B[g.j]?=some y) (ho:g.O[i+g.j]?=some o) (hi:i<A.length) (ha:a<4294967296) (hy':y<4294967296):
  ∃g':Gd A B i a,g'.j=g.j+1/\g'.O=g.O.set (i+g.j) ((g.c+(a*y+o))%4294967296)/\g'.c=(g.c+(a*y+o))/4294967296:=by
 have hjl:g.j<B.length:=(List.getElem?_eq_some_iff.1 hy).1;have ho':=ck g.lmb ho;have hb:=nA ha hy';have hc:=g.hc;refine⟨⟨g.j+1,g.O.set (i+g.j) ((g.c+(a*y+o))%4294967296),(g.c+(a*y+o))/4294967296,hjl,by simp[g.len],xw g.lmb (Nat.mod_lt _ (by omega)),?_,?_,fun k h1 h2=>?_⟩,rfl,rfl,rfl⟩
 ·generalize a*y=p at*
  omega
 ·have h1:=pn g.O (i+g.j) ((g.c+(a*y+o))%4294967296) o ho;have h2:=bG hy;have h3:=g.val;rw[h2,show i+(g.j+1)=i+g.j+1 by omega,Nat.pow_succ,Nat.mul_add a,Nat.add_mul];have e1:a*(y*4294967296^g.j)*4294967296^i=a*y*4294967296^(i+g.j):=by
   rw[<- Nat.mul_assoc,Nat.mul_assoc,<- Nat.pow_add,Nat.add_comm g.j i]
  rw[e1];generalize 4294967296^(i+g.j)=X at*
  generalize a*y=p at*
  have e2:(g.c+(p+o))=(g.c+(p+o))%4294967296+4294967296*((g.c+(p+o))/4294967296):=(Nat.mod_add_div _ _).symm;generalize hr:(g.c+(p+o))%4294967296=r at*
  generalize hq:(g.c+(p+o))/4294967296=q at*
  generalize natV (g.O.set (i+g.j) r)=N at*
  generalize natV g.O=M at*
  generalize natV (A.take i)*natV B=U at*
  generalize a*natV (B.take g.j)*4294967296^i=V at*
  -- N + o X = M + r X, M + c X = U + V, c + p + o = r + B q
  have e3:g.c*X+(p*X+o*X)=r*X+q*(X*4294967296):=by
   have:=congrArg (· *X) e2;simp only[Nat.add_mul]at this;rw[this]
   congr 1
   rw[Nat.mul_comm 4294967296 q,Nat.mul_assoc,Nat.mul_comm 4294967296 X]
  omega
 rw[List.getElem?_set_ne (by omega)];exact g.zero k h1 h2
theorem vU {A B:List Nat} {i a:Nat} (hA:A[i]?=some a) (g:Gd A B i a) (hj: ¬g.j<B.length): ∃g':D7 A B,g'.i=i+1/\g'.O=g.O.set (i+B.length) g.c:=by
 have hi:=(List.getElem?_eq_some_iff.1 hA).1;have hjl:=g.hj;have e:g.j=B.length:=by omega
 have hz:=g.zero (i+B.length) (Nat.le_refl _) (by omega);refine⟨⟨i+1,g.O.set (i+B.length) g.c,hi,by simp[g.len],xw g.lmb g.hc,?_,fun k h1 h2=>?_⟩,rfl,rfl⟩
 ·have h1:=pn g.O (i+B.length) g.c 0 hz;have h2:=g.val;rw[e,List.take_length]at h2;rw[bG hA,Nat.add_mul];have e1:a*4294967296^i*natV B=a*natV B*4294967296^i:=by rw[Nat.mul_assoc,Nat.mul_comm (4294967296^i),<- Nat.mul_assoc]
  rw[e1];omega
 rw[List.getElem?_set_ne (by omega)];exact g.zero k (by omega) h2
theorem Dw (a b:Int):fD (!(decide (a<0)==decide (b<0))) (a.natAbs*b.natAbs)=a*b:=by
 have h:=Int.natAbs_mul a b;unfold fD;rcases Int.lt_or_le a 0 with ha|ha<;>rcases Int.lt_or_le b 0 with hb|hb
 ·have:0<a*b:=Int.mul_pos_of_neg_of_neg ha hb;simp[ha,hb];omega
 ·have:a*b<=0:=Int.mul_nonpos_of_nonpos_of_nonneg (by omega) hb;have hb': ¬b<0:=by omega
  simp[ha,hb'];omega
 ·have:a*b<=0:=Int.mul_nonpos_of_nonneg_of_nonpos ha (by omega);have ha': ¬a<0:=by omega
  simp[ha',hb];omega
 have:0<=a*b:=Int.mul_nonneg ha hb;have ha': ¬a<0:=by omega
 have hb': ¬b<0:=by omega
 simp[ha',hb'];omega
abbrev yg (neg:Bool) (A:List Nat):List OObj:=[⟨32,2,[[.p (.raw (.bool neg)),.p (.sl (ls fU A))]]⟩]
abbrev w7:List OObj:=[⟨32,2,[[.raw (.bool false),.raw (.slice none 0 0)]]⟩]
theorem ja (a b:Int) (ha:Bh a) (hb:Bh b):CallC Tryz.prog 8 [tZ a,tZ b] ⟨[],tZ (a*b)⟩:=by
 have la:=ha.len;have lb:=hb.len;have hlA:=aV a.natAbs;have hlB:=aV b.natAbs;have vA:=aP a.natAbs;have vB:=aP b.natAbs;refine aJ Tryz.func8 rfl (by kernel_rfl) ?_;rw[Tryz.ntmps8];refine aF fun _ K=>?_;simp(disch:=omega) only[kd,aa,tZ,ag,ae];apply K
 generalize aR a.natAbs=A at*
 generalize aR b.natAbs=B at*
 have e0:((A.length:Int)+(B.length:Int)).toNat=A.length+B.length:=by omega
 refine aF fun _ K=>?_;simp(disch:=omega) only[kd,aa,ae,aT,e0,lA];apply K
 refine aH (aF fun _ K=>?_);simp(disch:=omega) only[kd,aa,ae];apply K;refine aZ (G:=D7 A B) (fun g=>⟨(jk::jk::.one (.ptr 2 0 0 0)::.one (.ptr 3 0 0 0)::.one (.ptr 4 0 0 0)::.one (.sl 18 0 0 (A.length+B.length))::j4 (j4 (j4 (jk::jk::bC A::rN A.length::rN g.i::j16 (j16 (j16 (j4 (jk::jk::[])))))))),Hm [(2,yg (decide (a<0)) A),(3,yg (decide (b<0)) B),(4,w7),(18,[⟨56,1,lc fU g.O⟩])]⟩) (fun g=>A.length-g.i) ⟨0,ag (A.length+B.length) 0,by omega,by simp,fun x hx=>by simp at hx;omega,by simp[tG,natV],fun k h1 h2=>by rw[List.getElem?_replicate,if_pos h2]⟩ ?_ ?_
 ·refine aG ⟨rfl,rfl,rfl,rfl,trivial⟩ ?_;simp[wk]
 rintro⟨i,O,hi,len,lmb,val,zero⟩;simp only;by_cases hm:i<A.length
 ·obtain⟨x,hx⟩:=getElem?_of_lt hm;have hx':=ck hlA hx;refine aF fun _ K=>?_;simp(disch:=omega) only[kd,bC];apply K
  refine bM rfl ?_;refine aH (aM ?_);refine aF fun _ K=>?_;simp(disch:=omega) only[kd,aa,hx];apply K
  refine aF fun _ K=>?_;simp only[kd];apply K
  refine aH (aF fun _ K=>?_);simp(disch:=omega) only[kd,aa,ae];apply K;refine aZ (G:=Gd A B i x) (fun g=>⟨(jk::jk::.one (.ptr 2 0 0 0)::.one (.ptr 3 0 0 0)::.one (.ptr 4 0 0 0)::.one (.sl 18 0 0 (A.length+B.length))::rN i::.raw (.int .u32 (x:Int))::.raw (.int .u64 (g.c:Int))::j4 (j4 (jk::jk::jk::bC A::rN A.length::rN i::j4 (jk::bC B::rN B.length::rN g.j::j16 (j16 (j4 (j4 (j4 (jk::jk::[]))))))))),Hm [(2,yg (decide (a<0)) A),(3,yg (decide (b<0)) B),(4,w7),(18,[⟨56,1,lc fU g.O⟩])]⟩) (fun g=>B.length-g.j) ⟨0,O,0,by omega,len,lmb,by omega,by simpa[natV] using val,zero⟩ ?_ ?_
  ·refine aG ⟨rfl,rfl,rfl,rfl,trivial⟩ ?_;simp[wk]
  intro g;by_cases hn:g.j<B.length
  ·obtain⟨y,hy⟩:=getElem?_of_lt hn;have hy':=ck hlB hy;have hlen:=g.len;obtain⟨o,ho⟩:=getElem?_of_lt (show i+g.j<g.O.length by omega);have ho':=ck g.lmb ho;have hb:=nA hx' hy';have hgc:=g.hc;obtain⟨g',q1,q2,q3⟩:=vV g hy ho hm hx' hy';have e1:((i:Int)+(g.j:Int)).toNat=i+g.j:=by omega
   have e2:(x:Int)*(y:Int)=((x*y:Nat):Int):=by simp
   generalize hp:x*y=p at*
   have e3:IntKind.u32.wrap ((g.c:Int)+((p:Int)+(o:Int)))=(((g.c+(p+o))%4294967296:Nat):Int):=by rw[<- r8];congr 1<;>omega
   have e4:Int.fdiv ((g.c:Int)+((p:Int)+(o:Int))) (2^(min 32 IntKind.u64.bits))=(((g.c+(p+o))/4294967296:Nat):Int):=by rw[<- F1];congr 1<;>omega
   refine aF fun _ K=>?_;simp(disch:=omega) only[kd,bC];apply K
   refine bM rfl ?_;refine aH (aM ?_);refine aF fun _ K=>?_;simp(disch:=omega) only[kd,aa,hy];apply K
   refine aF fun _ K=>?_;simp(disch:=omega) only[kd,aa,cX,e2,aT,e1,ae,ho];apply K
   refine aF fun _ K=>?_;simp(disch:=omega) only[kd,aa,aT,e3,e1,ae,ho,dv];apply K
   refine aN fun _ K=>?_;simp only[kd,aa,Int.reduceLE,ao,e4];apply K
   show bu _ _ _ _;refine aN fun _ K=>?_;simp(disch:=omega) only[kd,aT];apply K
   refine⟨g',by omega,aG ⟨rfl,rfl,rfl,by rw[q2];rfl,trivial⟩ ?_⟩;simp[wk,q1,q3]
  have hgj:=g.hj;have hgc:=g.hc;have hgl:=g.len;obtain⟨g',q1,q2⟩:=vU hx g hn;have e1:((i:Int)+(B.length:Int)).toNat=i+B.length:=by omega
  have e3:IntKind.u32.wrap (g.c:Int)=(g.c:Int):=by rw[r8];omega
  refine aF fun _ K=>?_;simp(disch:=omega) only[kd,bC];apply K
  refine bV rfl ?_;show bu _ _ _ _;have hz:=g.zero (i+B.length) (Nat.le_refl _) (by omega);refine aN fun _ K=>?_;simp(disch:=omega) only[kd,aa,ae,aT,e3,e1,hz,dv];apply K
  show bu _ _ _ _;refine aN fun _ K=>?_;simp(disch:=omega) only[kd,aT];apply K
  refine⟨g',by omega,aG ⟨rfl,rfl,rfl,by rw[q2];rfl,trivial⟩ ?_⟩;simp[wk,q1]
 have hfin:natV O=a.natAbs*b.natAbs:=by
  have:i=A.length:=by omega
  rw[val,this,List.take_length,vA,vB]
 have h4:=jl (!(decide (a<0)==decide (b<0))) O lmb (by omega);rw[hfin,Dw]at h4;refine aF fun _ K=>?_;simp(disch:=omega) only[kd,bC];apply K
 refine bV rfl ?_;show bu _ _ _ _;refine bu.weak (bX 18 (cJ rfl)) ?_;have eT:List.take (A.length+B.length) O=O:=List.take_of_length_le (by omega);simp(disch:=omega) only[kd,tZ,ae,eT];refine aI [⟨6,_,_,_,h4⟩] [] fun _ K=>?_;simp(disch:=omega) only[kd,bC,tZ,aa,ae];apply K
 (refine aK ⟨.inr rfl,aL rfl ?_ rfl⟩;simp(disch:=omega) only[kd,Tryz.results8,ae,aa])
def dblL:List Nat->Nat->List Nat
 |[],b=>[b]
 |x::l,b=>(2*x+b)%4294967296::dblL l (x/2147483648)
theorem vZ: ∀(l:List Nat) (b:Nat),Lmb l->b<=1->natV (dblL l b)=2*natV l+b
 |[],b,_,_=>by simp[dblL,natV]
 |x::l,b,hl,hb=>by
  rw[dA]at hl;have hx:=hl.1;simp only[dblL,natV,vZ l (x/2147483648) hl.2 (by omega)];omega
theorem zp: ∀(l:List Nat) (b:Nat),Lmb l->b<=1->Lmb (dblL l b)
 |[],b,_,hb=>by simp[dblL,Lmb];omega
 |x::l,b,hl,hb=>by
  rw[dA]at hl;have hx:=hl.1;rw[dblL,dA];exact⟨Nat.mod_lt _ (by omega),zp l _ hl.2 (by omega)⟩
theorem yQ: ∀(l:List Nat) (b:Nat),(dblL l b).length=l.length+1
 |[],b=>rfl
 |x::l,b=>by simp[dblL,yQ l]
theorem qw (a b n:Nat) (h:b<2^n):(a*2^n)|||b=a*2^n+b:=by
 have:=Nat.shiftLeft_add_eq_or_of_lt h a;rw[Nat.shiftLeft_eq]at this;exact this.symm
theorem rO (a b n:Nat) (h:b<2^n):b|||(a*2^n)=a*2^n+b:=by rw[Nat.or_comm,qw a b n h]
theorem Pu (a b:Nat) (ha:a<4294967296) (hb:b<4294967296):IntKind.u32.wrap (((BitVec.ofInt IntKind.u32.bits (a:Int)|||BitVec.ofInt IntKind.u32.bits (b:Int)).toNat:Nat):Int)=((a|||b:Nat):Int):=by
 rw[r8];show(((BitVec.ofInt 32 (a:Int)|||BitVec.ofInt 32 (b:Int)).toNat%4294967296:Nat):Int)=_;rw[BitVec.toNat_or];have e: ∀x:Nat,x<4294967296->(BitVec.ofInt 32 (x:Int)).toNat=x:=fun x hx=>by rw[BitVec.toNat_ofInt];show((x:Int)%4294967296).toNat=x;omega
 rw[e a ha,e b hb,Nat.mod_eq_of_lt];exact Nat.or_lt_two_pow (n:=32) ha hb
theorem xG (a b:Nat) (ha:a<18446744073709551616) (hb:b<18446744073709551616):IntKind.u64.wrap (((BitVec.ofInt IntKind.u64.bits (a:Int)|||BitVec.ofInt IntKind.u64.bits (b:Int)).toNat:Nat):Int)=((a|||b:Nat):Int):=by
 rw[IntKind.wrap_u64];show((BitVec.ofInt 64 (a:Int)|||BitVec.ofInt 64 (b:Int)).toNat:Int)%_=_;rw[BitVec.toNat_or];have e: ∀x:Nat,x<18446744073709551616->(BitVec.ofInt 64 (x:Int)).toNat=x:=fun x hx=>by rw[BitVec.toNat_ofInt];show((x:Int)%18446744073709551616).toNat=x;omega
 rw[e a ha,e b hb];have:=Nat.or_lt_two_pow (n:=64) ha hb;generalize a|||b=c at*
 omega
theorem Pe (a b:Nat) (ha:a<4294967296) (hb:b<4294967296):IntKind.u32.wrap (((BitVec.ofInt IntKind.u32.bits (a:Int)&&&BitVec.ofInt IntKind.u32.bits (b:Int)).toNat:Nat):Int)=((a&&&b:Nat):Int):=by
 rw[r8];show(((BitVec.ofInt 32 (a:Int)&&&BitVec.ofInt 32 (b:Int)).toNat%4294967296:Nat):Int)=_;rw[BitVec.toNat_and];have e: ∀x:Nat,x<4294967296->(BitVec.ofInt 32 (x:Int)).toNat=x:=fun x hx=>by rw[BitVec.toNat_ofInt];show((x:Int)%4294967296).toNat=x;omega
 rw[e a ha,e b hb,Nat.mod_eq_of_lt];exact Nat.lt_of_le_of_lt Nat.and_le_left ha
structure PZ (l:List Nat) (b:Nat) where
 i:Nat
 o:List Nat
 c:Nat
 hi:i<=l.length
 hc:c<=1
 ho:o.length=i
 h:o++dblL (l.drop i) c=dblL l b
theorem G4 (l:List Nat) (b:Nat) (lm:Lmb l) (hb:b<=1) (bl:l.length<=1073741824):CallC Tryz.prog 125 [bC l,.raw (.int .u32 (b:Int))] ⟨[],bC (dblL l b)⟩:=by
 refine aJ Tryz.func125 rfl (by kernel_rfl) ?_;rw[Tryz.ntmps125];refine aF fun _ K=>?_;simp only[kd,bC,aa,ag];apply K
 refine aF fun _ K=>?_;simp only[kd];apply K
 refine aH (aF fun _ K=>?_);simp only[kd,aa];apply K;refine aZ (G:=PZ l b) (fun g=>⟨(bC l::.raw (.int .u32 (g.c:Int))::jk::jk::.raw (.slice none 0 0)::.one (.sl 20 0 0 g.o.length)::jk::jk::bC l::rN l.length::rN g.i::j16 (jk::[])),Hm [(20,[⟨56,1,lc fU g.o⟩])]⟩) (fun g=>l.length-g.i) ⟨0,[],b,by omega,hb,rfl,rfl⟩ ?_ ?_
 ·refine(eK (k:=5) (d:=20) 56 1 (by omega) rfl rfl).trans (aG ⟨rfl,trivial⟩ ?_);simp[wk]
 rintro⟨i,o,c,hi,hc,ho,h⟩;simp only;by_cases hm:i<l.length
 ·obtain⟨a,ha⟩:=getElem?_of_lt hm;have ha':=ck lm ha;have e1:IntKind.u32.wrap ((a:Int)*2^min 1 IntKind.u32.bits)=((2*a%4294967296:Nat):Int):=by
   rw[<- r8];congr 1;show(a:Int)*2=_;omega
  have e2:=Pu (2*a%4294967296) c (by omega) (by omega);have e3:(2*a%4294967296)|||c=(2*a+c)%4294967296:=by
   have:=qw (a%2147483648) c 1 (by omega);rw[show 2*a%4294967296=a%2147483648*2^1 by omega,this];omega
  rw[e3]at e2;have e4:Int.fdiv (a:Int) (2^(min 31 IntKind.u32.bits))=((a/2147483648:Nat):Int):=by
   show Int.fdiv (a:Int) 2147483648=_;rw[Int.fdiv_eq_ediv_of_nonneg _ (by omega)];omega
  refine aF fun _ K=>?_;simp(disch:=omega) only[kd,bC];apply K
  refine bM rfl ?_;refine aH (aM ?_);refine aF fun _ K=>?_;simp(disch:=omega) only[kd,aa,ha];apply K
  refine aF fun _ K=>?_;simp(disch:=omega) only[kd,aa,Int.reduceLE,ao,e1,e2,Nat.reduceMul,aj,ir];apply K
  refine aN fun _ K=>?_;simp only[kd,aa,Int.reduceLE,ao,e4];apply K
  show bu _ _ _ _;refine aN fun _ K=>?_;simp(disch:=omega) only[kd,aT];apply K
  refine⟨⟨i+1,o++[(2*a+c)%4294967296],a/2147483648,by omega,by omega,by simp[ho],?_⟩,by simp only;omega,aG ⟨rfl,trivial⟩ ?_⟩
  ·rw[<- h,dQ ha,dblL,List.append_assoc];rfl
  simp[wk]
 refine aF fun _ K=>?_;simp(disch:=omega) only[kd,bC];apply K
 refine bV rfl ?_;show bu _ _ _ _;refine aF fun _ K=>?_;simp(disch:=omega) only[kd,aa,Nat.reduceMul,aj,ir];apply K
 have hfin:dblL l b=o++[c]:=by rw[<- h,dz (by omega:l.length<=i),dblL]
 (refine aK ⟨.inr rfl,lI 20 (cJ rfl) ?_ rfl⟩;simp(disch:=omega) only[kd,Tryz.results125,bC])
 simp only[hfin];rw[List.take_of_length_le (by simp)]
structure O3 (l:List Nat) where
 i:Nat
 u:Nat
 hi:i<=l.length/\i<=2
 hu:u=natV (l.take i)
theorem eI {l:List Nat} (h:Lmb l) (k:Nat):natV (l.take k)<4294967296^k:=by
 have h1:Lmb (l.take k):=fun a ha=>h a (List.mem_of_mem_take ha)
 have h2:=fq h1;exact Nat.lt_of_lt_of_le h2 (Nat.pow_le_pow_right (by omega) (by rw[List.length_take];omega))
theorem Hy (l:List Nat) (lm:Lmb l) (bl:l.length<=1073741824):CallC Tryz.prog 116 [bC l] ⟨[],.raw (.int .u64 (natV (l.take 2):Nat))⟩:=by
 refine aJ Tryz.func116 rfl (by kernel_rfl) ?_;rw[Tryz.ntmps116];refine aF fun _ K=>?_;simp only[kd,bC,ag];apply K
 refine aF fun _ K=>?_;simp only[kd];apply K
 refine aH (aF fun _ K=>?_);simp only[kd];apply K;refine aZ (G:=O3 l) (fun g=>⟨(bC l::jk::.raw (.int .u64 0)::.raw (.int .u64 (g.u:Int))::rN g.i::j16 (j4 (jk::[]))),Hm []⟩) (fun g=>l.length-g.i) ⟨0,0,⟨by omega,by omega⟩,rfl⟩ ?_ ?_
 ·refine aG trivial ?_;simp[wk]
 rintro⟨i,u,hi,hu⟩;simp only;have hlt:=eI lm i;rw[<- hu]at hlt;by_cases hm:i<l.length/\i<2
 ·obtain⟨a,ha⟩:=getElem?_of_lt hm.1;have ha':=ck lm ha;have hm2:=hm.2;have hm1:=hm.1;have hu2:=bG ha;rw[<- hu]at hu2;refine aH (aF fun _ K=>?_);simp(disch:=omega) only[kd,aa,bC];apply K;refine bf rfl (aO ?_);refine aH (aM ?_);have hi2:i=0\/i=1:=by omega
  rcases hi2 with rfl|rfl
  ·have e1:IntKind.u64.wrap ((a:Int)*2^min (32*((0:Nat):Int)).toNat IntKind.u64.bits)=(a:Int):=by
    rw[IntKind.wrap_u64];show((a:Int)*1)%_=_;omega
   have hu0:u=0:=by simpa[natV] using hu
   have e2:=xG u a (by omega) (by omega);rw[hu0,Nat.zero_or,<- hu0]at e2;refine aN fun _ K=>?_;simp(disch:=omega) only[kd,aa,ha,cX,aT,e1,e2];apply K
   show bu _ _ _ _;refine aN fun _ K=>?_;simp(disch:=omega) only[kd,aa,aT];apply K
   refine⟨⟨1,a,⟨by omega,by omega⟩,by rw[hu2,hu0];simp⟩,by simp only;omega,aG trivial ?_⟩;simp[wk]
  have e1:IntKind.u64.wrap ((a:Int)*2^min (32*((1:Nat):Int)).toNat IntKind.u64.bits)=((a*4294967296:Nat):Int):=by
   rw[IntKind.wrap_u64];show((a:Int)*4294967296)%_=_;omega
  simp only[Nat.pow_one]at hlt;have e2:=xG u (a*4294967296) (by omega) (by omega);rw[show a*4294967296=a*2^32 from rfl,rO _ _ _ hlt,show a*2^32=a*4294967296 from rfl]at e2;refine aN fun _ K=>?_;simp(disch:=omega) only[kd,aa,ha,cX,aT,e1,e2];apply K
  show bu _ _ _ _;refine aN fun _ K=>?_;simp(disch:=omega) only[kd,aa,aT];apply K
  refine⟨⟨2,a*4294967296+u,⟨by omega,by omega⟩,by rw[hu2];omega⟩,by simp only;omega,aG trivial ?_⟩;simp[wk]
 have hfin:u=natV (l.take 2):=by
  rw[hu];by_cases h2:i=2
  ·rw[h2]
  rw[List.take_of_length_le (by omega),List.take_of_length_le (by omega)]
 rw[<- hfin];by_cases h3:i<l.length
 ·refine aH (aF fun _ K=>?_);simp(disch:=omega) only[kd,aa,bC];apply K;refine aU rfl (bK ?_);show bu _ _ _ _;refine aF fun _ K=>?_;simp only[kd];apply K
  (refine aK ⟨.inr rfl,aL rfl ?_ rfl⟩;simp(disch:=omega) only[kd,Tryz.results116])
 refine aH (aF fun _ K=>?_);simp(disch:=omega) only[kd,aa,bC];apply K;refine aU rfl (bK ?_);show bu _ _ _ _;refine aF fun _ K=>?_;simp only[kd];apply K
 (refine aK ⟨.inr rfl,aL rfl ?_ rfl⟩;simp(disch:=omega) only[kd,Tryz.results116])
def rp (z:Int):TV:=if -9223372036854775808<=z/\z<=9223372036854775807 then .tup [(false,[.p (.raw (.int .i64 z))]),(false,[.p (.raw (.bool true))])]else .tup [(false,[.p (.raw (.int .i64 0))]),(false,[.p (.raw (.bool false))])]
theorem BC {n:Nat} (h:2<(aR n).length):18446744073709551616<=n:=by
 have h1:=sV (cd n) (by intro h0;rw[h0]at h;simp at h);rw[aP]at h1;have h2:4294967296^2<=4294967296^((aR n).length-1):=Nat.pow_le_pow_right (by omega) (by omega);omega
theorem iu {n:Nat} (h:(aR n).length<=2):n<18446744073709551616:=by
 have h1:=fq (aV n);rw[aP]at h1;have h2:4294967296^(aR n).length<=4294967296^2:=Nat.pow_le_pow_right (by omega) h;omega
theorem Kb (z:Int) (h:Bg z):CallC Tryz.prog 86 [tZ z] ⟨[],rp z⟩:=by
 have ht:=iN (aR z.natAbs) h.len;rw[gJ]at ht;have hw:=Hy (aR z.natAbs) (aV _) h.len;have hl:=h.len;by_cases h2:2<(aR z.natAbs).length
 ·have hb:=BC h2;rw[show rp z= .tup [(false,[.p (.raw (.int .i64 0))]),(false,[.p (.raw (.bool false))])] by unfold rp;rw[if_neg (by omega)]];refine aJ Tryz.func86 rfl (by kernel_rfl) ?_;rw[Tryz.ntmps86];refine aF fun _ K=>?_;simp(disch:=omega) only[kd,aa,tZ,ag];apply K
  refine aI [⟨2,_,_,_,ht⟩] [] fun _ K=>?_;simp only[kd,bC,aa];apply K
  refine aI [⟨1,_,_,_,hw⟩] [] fun _ K=>?_;simp only[kd,bC,aa];apply K
  refine aH (aM ?_);refine aF fun _ K=>?_;simp(disch:=omega) only[kd,aa];apply K
  refine bf rfl ?_;refine aF fun _ K=>?_;simp only[kd];apply K
  (refine aK ⟨.inr rfl,aL rfl ?_ rfl⟩;simp(disch:=omega) only[kd,Tryz.results86])
 have hb:=iu (n:=z.natAbs) (by omega);rw[List.take_of_length_le (by omega),aP]at hw;by_cases hz:z<0
 ·have e1:IntKind.i64.wrap (IntKind.u64.wrap (0-(z.natAbs:Int)))=z\/9223372036854775808<z.natAbs:=by
   rw[IntKind.wrap_u64];by_cases hz2:z.natAbs<=9223372036854775808
   ·left;have:(0-(z.natAbs:Int))%18446744073709551616=18446744073709551616+z:=by omega
    rw[this,IntKind.wrap_i64];omega
   right;omega
  by_cases hz2:z.natAbs<=9223372036854775808
  ·replace e1:=e1.resolve_right (by omega)
   rw[show rp z= .tup [(false,[.p (.raw (.int .i64 z))]),(false,[.p (.raw (.bool true))])] by unfold rp;rw[if_pos (by omega)]];refine aJ Tryz.func86 rfl (by kernel_rfl) ?_;rw[Tryz.ntmps86];refine aF fun _ K=>?_;simp(disch:=omega) only[kd,aa,tZ,ag];apply K
   refine aI [⟨2,_,_,_,ht⟩] [] fun _ K=>?_;simp only[kd,bC,aa];apply K
   refine aI [⟨1,_,_,_,hw⟩] [] fun _ K=>?_;simp only[kd,bC,aa];apply K
   refine aH (aM ?_);refine aF fun _ K=>?_;simp(disch:=omega) only[kd,aa];apply K
   refine aU rfl ?_;refine aF fun _ K=>?_;simp(disch:=omega) only[kd,aa];apply K
   refine bf rfl ?_;refine aF fun _ K=>?_;simp only[kd,aa,e1];apply K
   (refine aK ⟨.inr rfl,aL rfl ?_ rfl⟩;simp(disch:=omega) only[kd,Tryz.results86])
  rw[show rp z= .tup [(false,[.p (.raw (.int .i64 0))]),(false,[.p (.raw (.bool false))])] by unfold rp;rw[if_neg (by omega)]];refine aJ Tryz.func86 rfl (by kernel_rfl) ?_;rw[Tryz.ntmps86];refine aF fun _ K=>?_;simp(disch:=omega) only[kd,aa,tZ,ag];apply K
  refine aI [⟨2,_,_,_,ht⟩] [] fun _ K=>?_;simp only[kd,bC,aa];apply K
  refine aI [⟨1,_,_,_,hw⟩] [] fun _ K=>?_;simp only[kd,bC,aa];apply K
  refine aH (aM ?_);refine aF fun _ K=>?_;simp(disch:=omega) only[kd,aa];apply K
  refine aU rfl ?_;refine aF fun _ K=>?_;simp(disch:=omega) only[kd,aa];apply K
  refine aU rfl ?_;refine aF fun _ K=>?_;simp(disch:=omega) only[kd,aa];apply K
  refine aU rfl (aO ?_);show bu _ _ _ _;refine aF fun _ K=>?_;simp only[kd];apply K
  (refine aK ⟨.inr rfl,aL rfl ?_ rfl⟩;simp(disch:=omega) only[kd,Tryz.results86])
 by_cases hz2:z.natAbs<9223372036854775808
 ·have e1:IntKind.i64.wrap (z.natAbs:Int)=z:=by rw[IntKind.wrap_i64];omega
  rw[show rp z= .tup [(false,[.p (.raw (.int .i64 z))]),(false,[.p (.raw (.bool true))])] by unfold rp;rw[if_pos (by omega)]];refine aJ Tryz.func86 rfl (by kernel_rfl) ?_;rw[Tryz.ntmps86];refine aF fun _ K=>?_;simp(disch:=omega) only[kd,aa,tZ,ag];apply K
  refine aI [⟨2,_,_,_,ht⟩] [] fun _ K=>?_;simp only[kd,bC,aa];apply K
  refine aI [⟨1,_,_,_,hw⟩] [] fun _ K=>?_;simp only[kd,bC,aa];apply K
  refine aH (aM ?_);refine aF fun _ K=>?_;simp(disch:=omega) only[kd,aa];apply K
  refine aU rfl ?_;refine aF fun _ K=>?_;simp(disch:=omega) only[kd,aa];apply K
  refine aU rfl ?_;refine aF fun _ K=>?_;simp(disch:=omega) only[kd,aa];apply K
  refine bf rfl ?_;refine aF fun _ K=>?_;simp only[kd,aa,e1];apply K
  (refine aK ⟨.inr rfl,aL rfl ?_ rfl⟩;simp(disch:=omega) only[kd,Tryz.results86])
 rw[show rp z= .tup [(false,[.p (.raw (.int .i64 0))]),(false,[.p (.raw (.bool false))])] by unfold rp;rw[if_neg (by omega)]];refine aJ Tryz.func86 rfl (by kernel_rfl) ?_;rw[Tryz.ntmps86];refine aF fun _ K=>?_;simp(disch:=omega) only[kd,aa,tZ,ag];apply K
 refine aI [⟨2,_,_,_,ht⟩] [] fun _ K=>?_;simp only[kd,bC,aa];apply K
 refine aI [⟨1,_,_,_,hw⟩] [] fun _ K=>?_;simp only[kd,bC,aa];apply K
 refine aH (aM ?_);refine aF fun _ K=>?_;simp(disch:=omega) only[kd,aa];apply K
 refine aU rfl ?_;refine aF fun _ K=>?_;simp(disch:=omega) only[kd,aa];apply K
 refine aU rfl ?_;refine aF fun _ K=>?_;simp(disch:=omega) only[kd,aa];apply K
 refine aU rfl (aO ?_);show bu _ _ _ _;refine aF fun _ K=>?_;simp only[kd];apply K
 (refine aK ⟨.inr rfl,aL rfl ?_ rfl⟩;simp(disch:=omega) only[kd,Tryz.results86])
theorem oF: ∀{l:List Nat} {i x:Nat},Lmb l->l[i]?=some x->natV l/4294967296^i%4294967296=x
 |[],i,x,_,h=>by simp at h
 |a::l,0,x,hl,h=>by
  rw[dA]at hl;simp at h;subst h;have:=hl.1;simp only[natV,Nat.pow_zero];omega
 |a::l,i+1,x,hl,h=>by
  rw[dA]at hl;have ha:=hl.1;simp at h;have:=oF hl.2 h;rw[Nat.pow_succ,Nat.mul_comm,<- Nat.div_div_eq_div_mul];simp only[natV];rw[show(a+4294967296*natV l)/4294967296=natV l by omega];exact this
theorem Ir (i:Nat):4294967296^i=2^(32*i):=by rw[Nat.pow_mul]
theorem Eo {a k x:Nat} (h:(aR a)[k/32]?=some x):x/2^(k%32)%2=a/2^k%2:=by
 have h1:=oF (aV a) h;rw[aP,Ir]at h1;rw[<- Nat.toNat_testBit,<- Nat.toNat_testBit,<- h1,show(4294967296:Nat)=2^32 from rfl,Nat.testBit_mod_two_pow,Nat.testBit_div_two_pow];rw[show k%32+32*(k/32)=k by omega];have:k%32<32:=by omega
 simp[this]
structure M8 (a b n:Nat) where
 t:Nat
 O:List Nat
 ht:t<=32*n
 len:O.length=n
 lmb:Lmb O
 val:natV O=a/2^t/b*2^t
theorem Pm (a k:Nat):a/2^k=2*(a/2^(k+1))+a/2^k%2:=by
 rw[Nat.pow_succ,<- Nat.div_div_eq_div_mul];omega
theorem GX {a b k:Nat} (hb:0<b) (h:2*(a/2^(k+1)%b)+a/2^k%2<b):a/2^k/b=2*(a/2^(k+1)/b)/\a/2^k%b=2*(a/2^(k+1)%b)+a/2^k%2:=by
 have h1:=Pm a k;have h2:=Nat.div_add_mod (a/2^(k+1)) b;generalize a/2^(k+1)=X at*
 generalize a/2^k%2=e at*
 generalize X%b=r at*
 generalize X/b=q at*
 have h3:a/2^k=b*(2*q)+(2*r+e):=by rw[h1,<- h2,Nat.mul_left_comm b 2 q];omega
 rw[h3];exact⟨by rw[Nat.mul_add_div hb,Nat.div_eq_of_lt h,Nat.add_zero],by rw[Nat.mul_add_mod,Nat.mod_eq_of_lt h]⟩
theorem GW {a b k:Nat} (hb:0<b) (h:b<=2*(a/2^(k+1)%b)+a/2^k%2):a/2^k/b=2*(a/2^(k+1)/b)+1/\a/2^k%b=2*(a/2^(k+1)%b)+a/2^k%2-b:=by
 have h1:=Pm a k;have h2:=Nat.div_add_mod (a/2^(k+1)) b;have hr:a/2^(k+1)%b<b:=Nat.mod_lt _ hb;have he:a/2^k%2<2:=Nat.mod_lt _ (by omega);generalize a/2^(k+1)=X at*
 generalize a/2^k%2=e at*
 generalize X%b=r at*
 generalize X/b=q at*
 have h3:a/2^k=b*(2*q+1)+(2*r+e-b):=by have:=Nat.mul_left_comm b 2 q;rw[h1,<- h2,Nat.mul_add b (2*q) 1,Nat.mul_one];omega
 have h4:2*r+e-b<b:=by omega
 rw[h3];exact⟨by rw[Nat.mul_add_div hb,Nat.div_eq_of_lt h4,Nat.add_zero],by rw[Nat.mul_add_mod,Nat.mod_eq_of_lt h4]⟩
theorem KK {a b n k:Nat} {O:List Nat} (hb:0<b) (ht:k+1<=32*n) (len:O.length=n) (lmb:Lmb O) (val:natV O=a/2^(k+1)/b*2^(k+1)) (h:2*(a/2^(k+1)%b)+a/2^k%2<b): ∃g:M8 a b n,g.t=k/\g.O=O:=
 ⟨⟨k,O,by omega,len,lmb,by rw[val,(GX hb h).1,Nat.pow_succ,Nat.mul_comm 2,Nat.mul_assoc,Nat.mul_comm 2]⟩,rfl,rfl⟩
theorem KJ {a b n k x:Nat} {O:List Nat} (hb:0<b) (ht:k+1<=32*n) (len:O.length=n) (lmb:Lmb O) (val:natV O=a/2^(k+1)/b*2^(k+1)) (h:b<=2*(a/2^(k+1)%b)+a/2^k%2) (hx:O[k/32]?=some x): ∃g:M8 a b n,g.t=k/\g.O=O.set (k/32) (x|||2^(k%32)):=by
 have hx':=ck lmb hx;have hj:k%32<32:=Nat.mod_lt _ (by omega);have hor:x|||2^(k%32)<4294967296:=Nat.or_lt_two_pow (n:=32) hx' (Nat.pow_lt_pow_right (by omega) hj);refine⟨⟨k,O.set (k/32) (x|||2^(k%32)),by omega,by simp[len],xw lmb hor,?_⟩,rfl,rfl⟩;have h1:=oF lmb hx;have h2:=pn O (k/32) (x|||2^(k%32)) x hx;have ek:2^(k+1)=2^(32*(k/32))*2^(k%32+1):=by rw[<- Nat.pow_add];congr 1;omega
 rw[Ir]at h1 h2;rw[(GW hb h).1];generalize a/2^(k+1)/b=q at*
 have h3:x=q%2^(31-k%32)*2^(k%32+1):=by
  rw[<- h1,val,ek,Nat.mul_comm (2^(32*(k/32))),<- Nat.mul_assoc,Nat.mul_div_cancel _ (Nat.pow_pos (by omega))];rw[show(4294967296:Nat)=2^(31-k%32)*2^(k%32+1) by rw[<- Nat.pow_add,show 31-k%32+(k%32+1)=32 by omega],Nat.mul_mod_mul_right]
 have h4:x|||2^(k%32)=x+2^(k%32):=by
  have:=qw (q%2^(31-k%32)) (2^(k%32)) (k%32+1) (Nat.pow_lt_pow_right (by omega) (by omega));rw[<- h3]at this;exact this
 rw[h4]at h2⊢;rw[Nat.add_mul,<- Nat.pow_add,show k%32+32*(k/32)=k by omega,val]at h2;have h5:(2*q+1)*2^k=q*2^(k+1)+2^k:=by rw[Nat.add_mul,Nat.one_mul,Nat.mul_comm 2 q,Nat.mul_assoc,Nat.mul_comm 2 (2^k),<- Nat.pow_succ]
 rw[h5];generalize natV (O.set (k/32) (x+2^(k%32)))=N at*
 generalize x*2^(32*(k/32))=U at*
 generalize q*2^(k+1)=V at*
 generalize 2^k=W at*
 omega
theorem vD {a n:Nat} (h:(aR a).length=n):a/2^(32*n)=0:=by
 have:=fq (aV a);rw[aP,Ir,h]at this;exact Nat.div_eq_of_lt this
theorem CV {a b:Nat} (h:b<=a):0<=fB a b:=by unfold fB;split<;>(try split)<;>omega
theorem GP {a b:Nat} (h:a<b):fB a b<0:=by rw[ng h];decide
abbrev yS (a b:Nat):TV:= .tup [(false,[.p (.sl (ls fU (aR (a/b))))]),(false,[.p (.sl (ls fU (aR (a%b))))])]
theorem oA {a b:Nat} (h:a<=b):(aR a).length<=(aR b).length:=iy (aV _) (cd _) (by rw[aP,aP];exact h)
theorem GY (a b:Nat) (hb:0<b) (la:(aR a).length<=536870912) (lb:(aR b).length<=536870912):CallC Tryz.prog 95 [bC (aR a),bC (aR b)] ⟨[],yS a b⟩:=by
 by_cases hs:(aR a).length<=2/\(aR b).length<=2
 ·obtain⟨sa,sb⟩:=hs;have ua:=iu sa;have ub:=iu sb;have h1:=Hy (aR a) (aV _) (by omega);have h2:=Hy (aR b) (aV _) (by omega);rw[List.take_of_length_le sa,aP]at h1;rw[List.take_of_length_le sb,aP]at h2;have hq:a/b<=a:=Nat.div_le_self _ _;have hr:a%b<b:=Nat.mod_lt _ hb;have h3:=yf false (a/b) (by omega);have h4:=yf false (a%b) (by omega);rw[show fD false (a/b)=((a/b:Nat):Int)from rfl]at h3;rw[show fD false (a%b)=((a%b:Nat):Int)from rfl]at h4;have hb0:(b:Int)≠0:=by omega
  have e1:IntKind.u64.wrap (Int.tdiv (a:Int) (b:Int))=((a/b:Nat):Int):=by
   rw[Int.tdiv_eq_ediv_of_nonneg (by omega),<- Int.natCast_ediv];generalize a/b=q at*;rw[IntKind.wrap_u64];omega
  have e2:Int.tmod (a:Int) (b:Int)=((a%b:Nat):Int):=by
   rw[Int.tmod_eq_emod_of_nonneg (by omega),<- Int.natCast_emod]
  unfold yS;generalize a/b=q at*
  generalize a%b=r at*
  refine aJ Tryz.func95 rfl (by kernel_rfl) ?_;rw[Tryz.ntmps95];refine aF fun _ K=>?_;simp only[kd,bC,aa,ag];apply K
  refine aH (aF fun _ K=>?_);simp(disch:=omega) only[kd,aa];apply K;refine bf rfl ?_;refine aI [⟨1,_,_,_,h1⟩,⟨3,_,_,_,h2⟩] [] fun _ K=>?_;simp only[kd,bC,aa,ah];apply K
  refine bz bj [⟨3,_,_,_,h3⟩,⟨8,_,_,_,h4⟩] [] (by kernel_rfl) fun _ K=>?_;simp(disch:=omega) only[kd,tZ,Int.natAbs_natCast,aa,ne_eq,hb0,not_false_eq_true,e1,e2,ah];apply K
  (refine aK ⟨.inr rfl,aL rfl ?_ rfl⟩;simp(disch:=omega) only[kd,Tryz.results95])
 refine aJ Tryz.func95 rfl (by kernel_rfl) ?_;rw[Tryz.ntmps95];refine aF fun _ K=>?_;simp only[kd,bC,aa,ag];apply K
 by_cases h3:(aR a).length<=2
 all_goals
  (first|refine aF fun _ K=>?_|refine aH (aF fun _ K=>?_)|refine aH (aH (aF fun _ K=>?_)));simp(disch:=omega) only[kd,aa];apply K
  first|refine aU rfl (aO ?_)|refine bU rfl (fun h=>by simp at h<;>omega) (fun _=>aO ?_)
  show bu _ _ _ _
  (first|refine aF fun _ K=>?_|refine aH (aF fun _ K=>?_)|refine aH (aH (aF fun _ K=>?_)));simp(disch:=omega) only[kd,aa,lA];apply K
  (first|refine aF fun _ K=>?_|refine aH (aF fun _ K=>?_)|refine aH (aH (aF fun _ K=>?_)));simp(disch:=omega) only[kd,aa,aT];apply K
  refine aZ (G:=M8 a b (aR a).length) (fun g=>⟨(bC (aR a)::bC (aR b)::jk::jk::.one (.sl 33 0 0 (aR a).length)::bC (aR (a/2^g.t%b))::jk::jk::.raw (.int .i64 ((g.t:Int)-1))::j16 (j16 (j16 (j16 (jk::jk::[]))))),Hm [(33,[⟨56,1,lc fU g.O⟩])]⟩) (fun g=>g.t) ⟨32*(aR a).length,ag (aR a).length 0,by omega,by simp,fun x hx=>by simp at hx;omega,by rw[tG,vD rfl];simp⟩ ?_ ?_
  ·refine(eK (k:=5) (d:=900) 56 1 (by omega) rfl rfl).trans ((bX 900 (cJ (f:=fU) (l:=[]) rfl)).trans (aG ⟨rfl,trivial⟩ ?_));simp[wk,gO,fj,vD rfl,cw];rfl
  rintro⟨t,O,ht,len,lmb,val⟩;simp only;cases t with
  |zero=>
   have htr:=iN O (by omega);rw[d7 lmb,val]at htr;simp only[Nat.pow_zero,Nat.div_one,Nat.mul_one]at htr;simp only[Nat.pow_zero,Nat.div_one]
   (first|refine aF fun _ K=>?_|refine aH (aF fun _ K=>?_)|refine aH (aH (aF fun _ K=>?_)));simp(disch:=omega) only[kd,bC];apply K
   first|refine aU rfl (bK ?_)|refine bU rfl (fun h=>by simp at h<;>omega) (fun _=>bK ?_)
   show bu _ _ _ _;refine bu.weak (bX 33 (cJ rfl)) ?_;have eT:List.take (aR a).length O=O:=List.take_of_length_le (by omega);simp(disch:=omega) only[kd,eT]
   (first|refine aI [⟨1,_,_,_,htr⟩] [] fun _ K=>?_|refine aH (aI [⟨1,_,_,_,htr⟩] [] fun _ K=>?_)|refine aH (aH (aI [⟨1,_,_,_,htr⟩] [] fun _ K=>?_)));simp only[kd,bC,aa];apply K
   (refine aK ⟨.inr rfl,aL rfl ?_ rfl⟩;simp(disch:=omega) only[kd,Tryz.results95])
  |succ k=>
   have ek:((k+1:Nat):Int)-1=(k:Int):=by omega
   simp only[ek];have hki:k/32<(aR a).length:=by omega
   obtain⟨x,hx⟩:=getElem?_of_lt hki;have hx':=ck (aV a) hx;obtain⟨y,hy⟩:=getElem?_of_lt (show k/32<O.length by omega);have hy':=ck lmb hy;have hbit:=Eo hx;have hq:IntKind.i64.wrap (Int.tdiv (k:Int) 32)=((k/32:Nat):Int):=by
    rw[Int.tdiv_eq_ediv_of_nonneg (by omega),IntKind.wrap_i64];omega
   have hr:Int.tmod (k:Int) 32=((k%32:Nat):Int):=by rw[Int.tmod_eq_emod_of_nonneg (by omega)];omega
   have hmin:min (k%32) IntKind.u32.bits=k%32:=by show min (k%32) 32=_;omega
   have e1:Int.fdiv (x:Int) (2^min (k%32) IntKind.u32.bits)=((x/2^(k%32):Nat):Int):=by
    rw[hmin,Int.fdiv_eq_ediv_of_nonneg _ (Int.pow_nonneg (by omega)),Int.natCast_ediv,Int.natCast_pow];rfl
   have hxl:x/2^(k%32)<=x:=Nat.div_le_self _ _;have e2:IntKind.u32.wrap (((BitVec.ofInt IntKind.u32.bits ((x/2^(k%32):Nat):Int)&&&BitVec.ofInt IntKind.u32.bits (1:Int)).toNat:Nat):Int)=((a/2^k%2:Nat):Int):=by
    rw[<- hbit,<- Nat.and_one_is_mod];exact Pe (x/2^(k%32)) 1 (by omega) (by omega)
   have hbl:a/2^k%2<2:=Nat.mod_lt _ (by omega);have hrb:a/2^(k+1)%b<b:=Nat.mod_lt _ hb;have lr:=oA (Nat.le_of_lt hrb);have h1:=G4 (aR (a/2^(k+1)%b)) (a/2^k%2) (aV _) (by omega) (by omega);have h2:=iN (dblL (aR (a/2^(k+1)%b)) (a/2^k%2)) (by rw[yQ];omega);rw[d7 (zp _ _ (aV _) (by omega)),vZ _ _ (aV _) (by omega),aP]at h2;by_cases hge:b<=2*(a/2^(k+1)%b)+a/2^k%2
   ·obtain⟨g',q1,q2⟩:=KJ hb ht len lmb val hge hy;have hrest:=(GW hb hge).2;have lr':=iX (n:=2*(a/2^(k+1)%b)+a/2^k%2) (k:=(aR b).length+1) (by
     have:=fq (aV b);rw[aP]at this;have hlt: ∀r e P:Nat,r<b->e<2->b<P->2*r+e<P*4294967296:=by intros;omega
     exact Nat.lt_of_lt_of_le (hlt _ _ _ hrb hbl this) (Nat.le_of_eq (Nat.pow_succ ..).symm))
    generalize 2*(a/2^(k+1)%b)+a/2^k%2=R at*
    have h3:=CY (aR R) (aR b) (aV _) (aV _) (cd _) (cd _) (by omega) (by omega);rw[aP,aP]at h3;have hc:=CV hge;have h4:=lh (aR R) (aR b) (aV _) (aV _) (by omega) (by omega);have h5:=iN (diffL (aR R) (aR b) 0) (by rw[iW];omega);have hd:=gY (aR R) (aR b) 0 (aV _) (aV _) (by omega) (oA hge) (by rw[aP,aP];exact hge);rw[aP,aP]at hd;rw[d7 (iY _ _ _),show natV (diffL (aR R) (aR b) 0)=a/2^k%b by omega]at h5;have hp2:2^(k%32)<4294967296:=Nat.pow_lt_pow_right (a:=2) (n:=32) (by omega) (Nat.mod_lt _ (by omega));have e3:IntKind.u32.wrap (1*2^min (k%32) IntKind.u32.bits)=((2^(k%32):Nat):Int):=by
     rw[hmin,Int.one_mul,show((2:Int)^(k%32))=((2^(k%32):Nat):Int) by rw[Int.natCast_pow];rfl,r8,Nat.mod_eq_of_lt hp2]
    have e4:=Pu y (2^(k%32)) hy' hp2
    (first|refine aF fun _ K=>?_|refine aH (aF fun _ K=>?_)|refine aH (aH (aF fun _ K=>?_)));simp(disch:=omega) only[kd,bC];apply K
    first|refine bf rfl (aO ?_)|refine bU rfl (fun _=>aO ?_) (fun h=>by simp at h<;>omega)
    refine aH (aM ?_)
    (first|refine aI [⟨10,_,_,_,h1⟩,⟨11,_,_,_,h2⟩] [] fun _ K=>?_|refine aH (aI [⟨10,_,_,_,h1⟩,⟨11,_,_,_,h2⟩] [] fun _ K=>?_)|refine aH (aH (aI [⟨10,_,_,_,h1⟩,⟨11,_,_,_,h2⟩] [] fun _ K=>?_)));simp(disch:=omega) only[kd,bC,aa,hq,hx,hr,e1,e2,ah];apply K
    (first|refine aI [⟨2,_,_,_,h3⟩] [] fun _ K=>?_|refine aH (aI [⟨2,_,_,_,h3⟩] [] fun _ K=>?_)|refine aH (aH (aI [⟨2,_,_,_,h3⟩] [] fun _ K=>?_)));simp(disch:=omega) only[kd,bC,aa];apply K
    first|refine bf rfl ?_|refine bU rfl (fun _=>?_) (fun h=>by simp at h<;>omega)
    (first|refine aI [⟨2,_,_,_,h4⟩,⟨3,_,_,_,h5⟩] [] fun _ K=>?_|refine aH (aI [⟨2,_,_,_,h4⟩,⟨3,_,_,_,h5⟩] [] fun _ K=>?_)|refine aH (aH (aI [⟨2,_,_,_,h4⟩,⟨3,_,_,_,h5⟩] [] fun _ K=>?_)));simp only[kd,bC,aa,ah];apply K
    refine kS bj (by kernel_rfl) fun _ K=>?_;simp(disch:=omega) only[kd,aa,hq,hy,hr,e3,e4,dv];apply K
    show bu _ _ _ _;refine aN fun _ K=>?_;simp(disch:=omega) only[kd,aa,aT];apply K
    refine⟨g',by omega,aG ⟨by rw[q2];rfl,trivial⟩ ?_⟩;simp[wk,q1]
   obtain⟨g',q1,q2⟩:=KK hb ht len lmb val (by omega);have hrest:=(GX (a:=a) (k:=k) hb (by omega)).2;rw[<- hrest]at h2 hge;have lr':=oA (Nat.le_of_lt (Nat.mod_lt (a/2^k) hb));have h3:=CY (aR (a/2^k%b)) (aR b) (aV _) (aV _) (cd _) (cd _) (by omega) (by omega);rw[aP,aP]at h3;have hc:=GP (a:=a/2^k%b) (b:=b) (by omega)
   (first|refine aF fun _ K=>?_|refine aH (aF fun _ K=>?_)|refine aH (aH (aF fun _ K=>?_)));simp(disch:=omega) only[kd,bC];apply K
   first|refine bf rfl (aO ?_)|refine bU rfl (fun _=>aO ?_) (fun h=>by simp at h<;>omega)
   refine aH (aM ?_)
   (first|refine aI [⟨10,_,_,_,h1⟩,⟨11,_,_,_,h2⟩] [] fun _ K=>?_|refine aH (aI [⟨10,_,_,_,h1⟩,⟨11,_,_,_,h2⟩] [] fun _ K=>?_)|refine aH (aH (aI [⟨10,_,_,_,h1⟩,⟨11,_,_,_,h2⟩] [] fun _ K=>?_)));simp(disch:=omega) only[kd,bC,aa,hq,hx,hr,e1,e2,ah];apply K
   (first|refine aI [⟨2,_,_,_,h3⟩] [] fun _ K=>?_|refine aH (aI [⟨2,_,_,_,h3⟩] [] fun _ K=>?_)|refine aH (aH (aI [⟨2,_,_,_,h3⟩] [] fun _ K=>?_)));simp(disch:=omega) only[kd,bC,aa];apply K
   first|refine aU rfl (aO ?_)|refine bU rfl (fun h=>by simp at h<;>omega) (fun _=>aO ?_)
   show bu _ _ _ _;refine aN fun _ K=>?_;simp(disch:=omega) only[kd,aa,aT];apply K
   refine⟨g',by omega,aG ⟨by rw[q2];rfl,trivial⟩ ?_⟩;simp[wk,q1]
end Go.Proofs.YtiollbhgpiiodaaGreatDoor
