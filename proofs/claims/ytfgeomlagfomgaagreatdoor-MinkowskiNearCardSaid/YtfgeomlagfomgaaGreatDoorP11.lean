/-
  Part 12 of a proof (walks and plain facts).
-/
import Derived.Test.YtfgeomlagfomgaaGreatDoorP10
set_option linter.all false
set_option maxRecDepth 100000
set_option maxHeartbeats 64000000
open Nat renaming reduceAdd → aa
open Nat renaming reduceEqDiff → ab
open List renaming replicate → ae
open Nat renaming reduceBEq → af
open Nat renaming reduceLeDiff → ah
open Int renaming reduceToNat → am
namespace Go.Proofs.YtfgeomlagfomgaaGreatDoor
open Go.RowKit
def sumL:List Nat->List Nat->Nat->List Nat
 |[],[],c=>[c]
 |a::m,[],c=>(c+a)%4294967296::sumL m [] ((c+a)/4294967296)
 |[],b::n,c=>(c+b)%4294967296::sumL [] n ((c+b)/4294967296)
 |a::m,b::n,c=>(c+a+b)%4294967296::sumL m n ((c+a+b)/4294967296)
theorem kp: ∀(m n:List Nat) (c:Nat),natV (sumL m n c)=natV m+natV n+c
 |[],[],c=>by simp[sumL,natV]
 |a::m,[],c=>by simp only[sumL,natV,kp m []];omega
 |[],b::n,c=>by simp only[sumL,natV,kp [] n];omega
 |a::m,b::n,c=>by simp only[sumL,natV,kp m n];omega
theorem dA {a:Nat} {l:List Nat}:Lmb (a::l)↔a<4294967296/\Lmb l:=by simp[Lmb]
theorem mA: ∀(m n:List Nat) (c:Nat),Lmb m->Lmb n->c<=1->Lmb (sumL m n c)
 |[],[],c,_,_,hc=>by simp[sumL,Lmb];omega
 |a::m,[],c,hm,hn,hc=>by
  rw[dA]at hm;rw[sumL,dA];exact⟨Nat.mod_lt _ (by omega),mA m [] _ hm.2 hn (by omega)⟩
 |[],b::n,c,hm,hn,hc=>by
  rw[dA]at hn;rw[sumL,dA];exact⟨Nat.mod_lt _ (by omega),mA [] n _ hm hn.2 (by omega)⟩
 |a::m,b::n,c,hm,hn,hc=>by
  rw[dA]at hm hn;rw[sumL,dA];exact⟨Nat.mod_lt _ (by omega),mA m n _ hm.2 hn.2 (by omega)⟩
theorem mR: ∀(m n:List Nat) (c:Nat),(sumL m n c).length=max m.length n.length+1
 |[],[],c=>by simp[sumL]
 |a::m,[],c=>by simp[sumL,mR m []]
 |[],b::n,c=>by simp[sumL,mR [] n]
 |a::m,b::n,c=>by simp[sumL,mR m n]
theorem dS {l:List Nat} {i a:Nat} (h:l[i]?=some a):l.drop i=a::l.drop (i+1):=by
 obtain⟨h1,rfl⟩:=List.getElem?_eq_some_iff.1 h;exact List.drop_eq_getElem_cons h1
theorem dy {l:List Nat} {i:Nat} (h:l.length<=i):l.drop i=[]:=List.drop_eq_nil_iff.2 h
theorem cn {l:List Nat} {i a:Nat} (hl:Lmb l) (h:l[i]?=some a):a<4294967296:=hl a (List.mem_of_getElem? h)
theorem sh (x:Nat):IntKind.u32.wrap (x:Int)=((x%4294967296:Nat):Int):=by rw[IntKind.wrap_u32];omega
theorem Ge (x:Nat):(x:Int).fdiv (2^(min 32 IntKind.u64.bits))=((x/4294967296:Nat):Int):=by
 show Int.fdiv (x:Int) 4294967296=_;rw[Int.fdiv_eq_ediv_of_nonneg _ (by omega)];omega
structure Qg (m n:List Nat) where
 i:Nat
 o:List Nat
 c:Nat
 hi:i<=max m.length n.length
 hc:c<=1
 ho:o.length=i
 h:o++sumL (m.drop i) (n.drop i) c=sumL m n 0
theorem PI (m n:List Nat) (lm:Lmb m) (ln:Lmb n) (bm:m.length<=1073741824) (bn:n.length<=1073741824):
  CallC Tryz.prog 130 [bz m,bz n] ⟨[],bz (sumL m n 0)⟩:=by
 refine aI Tryz.func130 rfl (by kernel_rfl) ?_;rw[Tryz.ntmps130];refine aD fun _ K=>?_;simp only[kd,bz,aa,ae];apply K
 refine aD fun _ K=>?_;simp only[kd];apply K
 refine aD fun _ K=>?_;simp only[kd];apply K
 refine aF (aD fun _ K=>?_);simp only[kd];apply K;refine aX (G:=Qg m n) (fun g=>⟨(bz m::bz n::jk::jk::.raw (.slice none 0 0)::.one (.sl 46 0 0 g.o.length)::.raw (.int .u64 (g.c:Int))::rN g.i::j16 (j16 (j4 (j4 (j4 (jk::jk::[])))))),Hm [(46,[⟨79,1,lc fU g.o⟩])]⟩) (fun g=>max m.length n.length-g.i) ⟨0,[],0,by omega,by omega,rfl,rfl⟩ ?_ ?_
 ·refine(ef (k:=5) (d:=46) 79 1 (by omega) rfl rfl).trans (aE ⟨rfl,trivial⟩ ?_);simp[wk]
 rintro⟨i,o,c,hi,hc,ho,h⟩;simp only;have hmx:max m.length n.length<=1073741824:=by omega
 by_cases hm:i<m.length
 ·obtain⟨a,ha⟩:=getElem?_of_lt hm;have ha':=cn lm ha;refine aF (aD fun _ K=>?_);simp(disch:=omega) only[kd,aa,bz,reduceCtorEq];apply K;refine aU rfl (aM ?_);refine aF (aK ?_);refine aF (aD fun _ K=>?_);simp(disch:=omega) only[kd,aa];apply K;refine aU rfl ?_;refine aL fun _ K=>?_;simp(disch:=omega) only[kd,aa,ha,dc];apply K
  show bo _ _ _ _;refine aF (aD fun _ K=>?_);simp only[kd,aa];apply K;by_cases hn:i<n.length
  ·obtain⟨b,hb⟩:=getElem?_of_lt hn;have hb':=cn ln hb;refine bQ rfl (fun _=>?_) (fun h=>by simp at h<;>omega);refine aL fun _ K=>?_;simp(disch:=omega) only[kd,aa,hb,dc];apply K
   show bo _ _ _ _;have e1:IntKind.u32.wrap ((c:Int)+(a:Int)+(b:Int))=(((c+a+b)%4294967296:Nat):Int):=by rw[<- sh];congr 1<;>omega
   have e2:Int.fdiv ((c:Int)+(a:Int)+(b:Int)) (2^(min 32 IntKind.u64.bits))=(((c+a+b)/4294967296:Nat):Int):=by rw[<- Ge];congr 1<;>omega
   refine aD fun _ K=>?_;simp(disch:=omega) only[kd,aa,e1,Nat.reduceMul,ah,iv];apply K
   refine aL fun _ K=>?_;simp only[kd,aa,Int.reduceLE,am,e2];apply K
   show bo _ _ _ _;refine aL fun _ K=>?_;simp(disch:=omega) only[kd,aa,aO];apply K
   refine⟨⟨i+1,o++[(c+a+b)%4294967296],(c+a+b)/4294967296,by omega,by omega,by simp[ho],?_⟩,by simp only;omega,aE ⟨rfl,trivial⟩ ?_⟩
   ·rw[<- h,dS ha,dS hb,sumL,List.append_assoc];rfl
   simp[wk]
  refine bQ rfl (fun h=>by simp at h<;>omega) (fun _=>aM ?_);show bo _ _ _ _;have e1:IntKind.u32.wrap ((c:Int)+(a:Int))=(((c+a)%4294967296:Nat):Int):=by rw[<- sh];congr 1<;>omega
  have e2:Int.fdiv ((c:Int)+(a:Int)) (2^(min 32 IntKind.u64.bits))=(((c+a)/4294967296:Nat):Int):=by rw[<- Ge];congr 1<;>omega
  refine aD fun _ K=>?_;simp(disch:=omega) only[kd,aa,e1,Nat.reduceMul,ah,iv];apply K
  refine aL fun _ K=>?_;simp only[kd,aa,Int.reduceLE,am,e2];apply K
  show bo _ _ _ _;refine aL fun _ K=>?_;simp(disch:=omega) only[kd,aa,aO];apply K
  refine⟨⟨i+1,o++[(c+a)%4294967296],(c+a)/4294967296,by omega,by omega,by simp[ho],?_⟩,by simp only;omega,aE ⟨rfl,trivial⟩ ?_⟩
  ·rw[<- h,dS ha,dy (by omega:n.length<=i),dy (by omega:n.length<=i+1),sumL,List.append_assoc];rfl
  simp[wk]
 by_cases hn:i<n.length
 ·obtain⟨b,hb⟩:=getElem?_of_lt hn;have hb':=cn ln hb;refine aF (aD fun _ K=>?_);simp(disch:=omega) only[kd,aa,bz];apply K;refine aU rfl (aM ?_);refine aF (aK ?_);refine aF (aD fun _ K=>?_);simp(disch:=omega) only[kd,aa];apply K;refine aQ rfl (aM ?_);show bo _ _ _ _;refine aF (aD fun _ K=>?_);simp(disch:=omega) only[kd,aa];apply K;refine aU rfl ?_;refine aL fun _ K=>?_;simp(disch:=omega) only[kd,aa,hb,dc];apply K
  show bo _ _ _ _;have e1:IntKind.u32.wrap ((c:Int)+(b:Int))=(((c+b)%4294967296:Nat):Int):=by rw[<- sh];congr 1<;>omega
  have e2:Int.fdiv ((c:Int)+(b:Int)) (2^(min 32 IntKind.u64.bits))=(((c+b)/4294967296:Nat):Int):=by rw[<- Ge];congr 1<;>omega
  refine aD fun _ K=>?_;simp(disch:=omega) only[kd,aa,e1,Nat.reduceMul,ah,iv];apply K
  refine aL fun _ K=>?_;simp only[kd,aa,Int.reduceLE,am,e2];apply K
  show bo _ _ _ _;refine aL fun _ K=>?_;simp(disch:=omega) only[kd,aa,aO];apply K
  refine⟨⟨i+1,o++[(c+b)%4294967296],(c+b)/4294967296,by omega,by omega,by simp[ho],?_⟩,by simp only;omega,aE ⟨rfl,trivial⟩ ?_⟩
  ·rw[<- h,dS hb,dy (by omega:m.length<=i),dy (by omega:m.length<=i+1),sumL,List.append_assoc];rfl
  simp[wk]
 refine aF (aD fun _ K=>?_);simp(disch:=omega) only[kd,aa,bz];apply K;refine aQ rfl (bN ?_);show bo _ _ _ _;have e1:IntKind.u32.wrap (c:Int)=(c:Int):=by rw[sh];omega
 refine aD fun _ K=>?_;simp(disch:=omega) only[kd,aa,e1,Nat.reduceMul,ah,iv];apply K
 have hfin:sumL m n 0=o++[c]:=by rw[<- h,dy (by omega:m.length<=i),dy (by omega:n.length<=i),sumL]
 (refine aH ⟨.inr rfl,iM 46 (cw rfl) ?_ rfl⟩;simp(disch:=omega) only[kd,Tryz.results130,bz])
 simp only[hfin];rw[List.take_of_length_le (by simp)]
def diffL:List Nat->List Nat->Nat->List Nat
 |[],_,_=>[]
 |a::m,[],w=>(a+8589934592-w)%4294967296::diffL m [] (if a<w then 1 else 0)
 |a::m,b::n,w=>(a+8589934592-(w+b))%4294967296::diffL m n (if a<w+b then 1 else 0)
theorem gU: ∀(m n:List Nat) (w:Nat),Lmb m->Lmb n->w<=1->n.length<=m.length->natV n+w<=natV m->natV (diffL m n w)+(natV n+w)=natV m
 |[],[],w,_,_,_,_,h=>by simp[diffL,natV]at*;omega
 |[],b::n,w,_,_,_,h,_=>by simp at h
 |a::m,[],w,hm,hn,hw,hl,h=>by
  rw[dA]at hm;simp only[natV]at h;have:=gU m [] (if a<w then 1 else 0) hm.2 hn (by split<;>omega) (by simp) (by simp only[natV];split<;>omega);simp only[diffL,natV]at this⊢;split at this<;>rename_i hlt<;>simp only[hlt,if_true,if_false]<;>omega
 |a::m,b::n,w,hm,hn,hw,hl,h=>by
  rw[dA]at hm hn;simp only[natV]at h;have:=gU m n (if a<w+b then 1 else 0) hm.2 hn.2 (by split<;>omega) (by simpa using hl) (by split<;>omega);simp only[diffL,natV]at this⊢;split at this<;>rename_i hlt<;>simp only[hlt,if_true,if_false]<;>omega
theorem i7: ∀(m n:List Nat) (w:Nat),Lmb (diffL m n w)
 |[],n,w=>by simp[diffL,Lmb]
 |a::m,[],w=>by rw[diffL,dA];exact⟨Nat.mod_lt _ (by omega),i7 m [] _⟩
 |a::m,b::n,w=>by rw[diffL,dA];exact⟨Nat.mod_lt _ (by omega),i7 m n _⟩
theorem i4: ∀(m n:List Nat) (w:Nat),(diffL m n w).length=m.length
 |[],n,w=>by simp[diffL]
 |a::m,[],w=>by simp[diffL,i4 m []]
 |a::m,b::n,w=>by simp[diffL,i4 m n]
structure O9 (m n:List Nat) where
 i:Nat
 o:List Nat
 c:Nat
 hi:i<=m.length
 hc:c<=1
 ho:o.length=i
 h:o++diffL (m.drop i) (n.drop i) c=diffL m n 0
theorem lg (m n:List Nat) (lm:Lmb m) (ln:Lmb n) (bm:m.length<=1073741824) (bn:n.length<=1073741824):
  CallC Tryz.prog 131 [bz m,bz n] ⟨[],bz (diffL m n 0)⟩:=by
 refine aI Tryz.func131 rfl (by kernel_rfl) ?_;rw[Tryz.ntmps131];refine aD fun _ K=>?_;simp only[kd,bz,aa,ae];apply K
 refine aD fun _ K=>?_;simp only[kd];apply K
 refine aD fun _ K=>?_;simp only[kd];apply K
 refine aF (aD fun _ K=>?_);simp only[kd];apply K;refine aX (G:=O9 m n) (fun g=>⟨(bz m::bz n::jk::jk::.raw (.slice none 0 0)::.one (.sl 37 0 0 g.o.length)::.raw (.int .u64 (g.c:Int))::rN g.i::j16 (j16 (j4 (jk::jk::[])))),Hm [(37,[⟨79,1,lc fU g.o⟩])]⟩) (fun g=>m.length-g.i) ⟨0,[],0,by omega,by omega,rfl,rfl⟩ ?_ ?_
 ·refine(ef (k:=5) (d:=37) 79 1 (by omega) rfl rfl).trans (aE ⟨rfl,trivial⟩ ?_);simp[wk]
 rintro⟨i,o,c,hi,hc,ho,h⟩;simp only;by_cases hm:i<m.length
 ·obtain⟨a,ha⟩:=getElem?_of_lt hm;have ha':=cn lm ha;refine aF (aD fun _ K=>?_);simp(disch:=omega) only[kd,aa,bz];apply K;refine aU rfl (aM ?_);refine aF (aK ?_);refine aD fun _ K=>?_;simp only[kd];apply K
  refine aF (aD fun _ K=>?_);simp only[kd,aa];apply K;by_cases hn:i<n.length
  ·obtain⟨b,hb⟩:=getElem?_of_lt hn;have hb':=cn ln hb;refine bQ rfl (fun _=>?_) (fun h=>by simp at h<;>omega);refine aL fun _ K=>?_;simp(disch:=omega) only[kd,aa,hb,dc];apply K
   show bo _ _ _ _;have e1:IntKind.u32.wrap (IntKind.u64.wrap ((a:Int)-((c:Int)+(b:Int))))=(((a+8589934592-(c+b))%4294967296:Nat):Int):=by rw[IntKind.wrap_u32,IntKind.wrap_u64];omega
   refine aD fun _ K=>?_;simp(disch:=omega) only[kd,aa,ha,dc,e1,Nat.reduceMul,ah,iv];apply K
   refine aD fun _ K=>?_;simp only[kd];apply K
   refine aD fun _ K=>?_;simp(disch:=omega) only[kd,aa,ha,dc];apply K
   by_cases hlt:a<c+b
   ·refine bQ rfl (fun _=>?_) (fun h=>by simp at h<;>omega);refine aL fun _ K=>?_;simp(disch:=omega) only[kd];apply K
    show bo _ _ _ _;refine aL fun _ K=>?_;simp(disch:=omega) only[kd,aa,aO];apply K
    refine⟨⟨i+1,o++[(a+8589934592-(c+b))%4294967296],1,by omega,by omega,by simp[ho],?_⟩,by simp only;omega,aE ⟨rfl,trivial⟩ ?_⟩
    ·rw[<- h,dS ha,dS hb,diffL,List.append_assoc,if_pos hlt];rfl
    simp[wk]
   refine bQ rfl (fun h=>by simp at h<;>omega) (fun _=>aM ?_);show bo _ _ _ _;refine aL fun _ K=>?_;simp(disch:=omega) only[kd,aa,dc,aO];apply K
   refine⟨⟨i+1,o++[(a+8589934592-(c+b))%4294967296],0,by omega,by omega,by simp[ho],?_⟩,by simp only;omega,aE ⟨rfl,trivial⟩ ?_⟩
   ·rw[<- h,dS ha,dS hb,diffL,List.append_assoc,if_neg hlt];rfl
   simp[wk]
  refine bQ rfl (fun h=>by simp at h<;>omega) (fun _=>aM ?_);show bo _ _ _ _;have e1:IntKind.u32.wrap (IntKind.u64.wrap ((a:Int)-(c:Int)))=(((a+8589934592-c)%4294967296:Nat):Int):=by rw[IntKind.wrap_u32,IntKind.wrap_u64];omega
  refine aD fun _ K=>?_;simp(disch:=omega) only[kd,aa,ha,dc,e1,Nat.reduceMul,ah,iv];apply K
  refine aD fun _ K=>?_;simp only[kd];apply K
  refine aD fun _ K=>?_;simp(disch:=omega) only[kd,aa,ha,dc];apply K
  by_cases hlt:a<c
  ·refine bQ rfl (fun _=>?_) (fun h=>by simp at h<;>omega);refine aL fun _ K=>?_;simp(disch:=omega) only[kd];apply K
   show bo _ _ _ _;refine aL fun _ K=>?_;simp(disch:=omega) only[kd,aa,aO];apply K
   refine⟨⟨i+1,o++[(a+8589934592-c)%4294967296],1,by omega,by omega,by simp[ho],?_⟩,by simp only;omega,aE ⟨rfl,trivial⟩ ?_⟩
   ·rw[<- h,dS ha,dy (by omega:n.length<=i),dy (by omega:n.length<=i+1),diffL,List.append_assoc,if_pos hlt];rfl
   simp[wk]
  refine bQ rfl (fun h=>by simp at h<;>omega) (fun _=>aM ?_);show bo _ _ _ _;refine aL fun _ K=>?_;simp(disch:=omega) only[kd,aa,dc,aO];apply K
  refine⟨⟨i+1,o++[(a+8589934592-c)%4294967296],0,by omega,by omega,by simp[ho],?_⟩,by simp only;omega,aE ⟨rfl,trivial⟩ ?_⟩
  ·rw[<- h,dS ha,dy (by omega:n.length<=i),dy (by omega:n.length<=i+1),diffL,List.append_assoc,if_neg hlt];rfl
  simp[wk]
 refine aF (aD fun _ K=>?_);simp(disch:=omega) only[kd,aa,bz];apply K;refine aQ rfl (bN ?_);show bo _ _ _ _;refine aD fun _ K=>?_;simp only[kd];apply K
 have hfin:diffL m n 0=o:=by rw[<- h,dy (by omega:m.length<=i),diffL];simp
 (refine aH ⟨.inr rfl,iM 37 (cw rfl) ?_ rfl⟩;simp(disch:=omega) only[kd,Tryz.results131,bz])
 simp only[hfin];rw[List.take_of_length_le (by simp)]
abbrev Bh (z:Int):Prop:=Sz z 536870912
theorem Bh.bg {z:Int} (h:Bh z):Bg z:=h.mono (by omega)
theorem Bh.len {z:Int} (h:Bh z):(aP z.natAbs).length<=536870912:=i6 h
theorem Sz.neg {z:Int} {k:Nat} (h:Sz z k):Sz (-z) k:=by unfold Sz;rw[Int.natAbs_neg];exact h
theorem Bh.neg {z:Int} (h:Bh z):Bh (-z):=Sz.neg h
theorem GJ {a b:Int} (h:decide (a<0)=decide (b<0)):fB (decide (a<0)) (a.natAbs+b.natAbs)=a+b:=by
 unfold fB;by_cases ha:a<0<;>by_cases hb:b<0<;>simp[ha,hb]at h⊢ <;>omega
theorem yJ {a b:Int} (h:decide (a<0)≠decide (b<0)) (hle:b.natAbs<=a.natAbs) {d:Nat} (hd:d+(b.natAbs+0)=a.natAbs):fB (decide (a<0)) d=a+b:=by
 unfold fB;by_cases ha:a<0<;>by_cases hb:b<0<;>simp[ha,hb]at h⊢ <;>omega
theorem iB {l m:List Nat} (hl:Lmb l) (cm:n9 m) (h:natV m<=natV l):m.length<=l.length:=by
 by_cases hc:m.length<=l.length
 ·exact hc
 have:=iC hl cm (by omega);omega
theorem vn (a b:Int) (ha:Bh a) (hb:Bh b):CallC Tryz.prog 101 [tZ a,tZ b] ⟨[],tZ (a+b)⟩:=by
 have la:=ha.len;have lb:=hb.len;have t1:=iN (aP a.natAbs) ha.bg.len;have t2:=iN (aP b.natAbs) hb.bg.len;rw[gK]at t1 t2;by_cases hs:decide (a<0)=decide (b<0)
 ·have h3:=PI (aP a.natAbs) (aP b.natAbs) (aW _) (aW _) (by omega) (by omega);have h4:=jp (decide (a<0)) (sumL (aP a.natAbs) (aP b.natAbs) 0) (mA _ _ _ (aW _) (aW _) (by omega)) (by rw[mR];omega);rw[kp,aN,aN,Nat.add_zero,GJ hs]at h4;have hs':(decide (a<0)==decide (b<0))=true:=by simp[hs]
  refine aI Tryz.func101 rfl (by kernel_rfl) ?_;rw[Tryz.ntmps101];refine aD fun _ K=>?_;simp(disch:=omega) only[kd,aa,tZ,ae,ab];apply K
  refine bu be [⟨2,_,_,_,t1⟩,⟨5,_,_,_,t2⟩] [] (by kernel_rfl) fun _ K=>?_;simp(disch:=omega) only[kd,bz,aa,ab,af];apply K
  refine aF (aD fun _ K=>?_);simp(disch:=omega) only[kd,aa,ab,hs'];apply K;refine aU rfl ?_;refine bu be [⟨4,_,_,_,h3⟩,⟨5,_,_,_,h4⟩] [] (by kernel_rfl) fun _ K=>?_;simp(disch:=omega) only[kd,bz,tZ,aa,ab,af];apply K
  (refine aH ⟨.inr rfl,aJ rfl ?_ rfl⟩;simp(disch:=omega) only[kd,Tryz.results101,ab,aa,tZ])
 have hs':(decide (a<0)==decide (b<0))=false:=by simpa using hs
 have h3:=C6 (aP a.natAbs) (aP b.natAbs) (aW _) (aW _) (b7 _) (b7 _) (by omega) (by omega);rw[aN,aN]at h3;by_cases hle:b.natAbs<=a.natAbs
 ·have hge:0<=fz a.natAbs b.natAbs:=by unfold fz;split<;>(try split)<;>omega
  have h4:=lg (aP a.natAbs) (aP b.natAbs) (aW _) (aW _) (by omega) (by omega);have h5:=jp (decide (a<0)) (diffL (aP a.natAbs) (aP b.natAbs) 0) (i7 _ _ _) (by rw[i4];omega);have hd:=gU (aP a.natAbs) (aP b.natAbs) 0 (aW _) (aW _) (by omega) (iB (aW _) (b7 _) (by rw[aN,aN];exact hle)) (by rw[aN,aN];exact hle);rw[aN,aN]at hd;rw[yJ hs hle hd]at h5;refine aI Tryz.func101 rfl (by kernel_rfl) ?_;rw[Tryz.ntmps101];refine aD fun _ K=>?_;simp(disch:=omega) only[kd,aa,tZ,ae,ab];apply K
  refine bu be [⟨2,_,_,_,t1⟩,⟨5,_,_,_,t2⟩] [] (by kernel_rfl) fun _ K=>?_;simp(disch:=omega) only[kd,bz,aa,ab,af];apply K
  refine aF (aD fun _ K=>?_);simp(disch:=omega) only[kd,aa,ab,hs'];apply K;refine aQ rfl (aM ?_);show bo _ _ _ _;refine aF (aG [⟨2,_,_,_,h3⟩] [] fun _ K=>?_);simp(disch:=omega) only[kd,bz,aa];apply K;refine aU rfl ?_;refine bu be [⟨4,_,_,_,h4⟩,⟨5,_,_,_,h5⟩] [] (by kernel_rfl) fun _ K=>?_;simp(disch:=omega) only[kd,bz,tZ,aa,ab,af];apply K
  (refine aH ⟨.inr rfl,aJ rfl ?_ rfl⟩;simp(disch:=omega) only[kd,Tryz.results101,ab,aa,tZ])
 have hge:fz a.natAbs b.natAbs<0:=by unfold fz;split<;>(try split)<;>omega
 have h4:=lg (aP b.natAbs) (aP a.natAbs) (aW _) (aW _) (by omega) (by omega);have h5:=jp (decide (b<0)) (diffL (aP b.natAbs) (aP a.natAbs) 0) (i7 _ _ _) (by rw[i4];omega);have hd:=gU (aP b.natAbs) (aP a.natAbs) 0 (aW _) (aW _) (by omega) (iB (aW _) (b7 _) (by rw[aN,aN];omega)) (by rw[aN,aN];omega);rw[aN,aN]at hd;rw[yJ (fun h=>hs h.symm) (by omega) hd,Int.add_comm]at h5;refine aI Tryz.func101 rfl (by kernel_rfl) ?_;rw[Tryz.ntmps101];refine aD fun _ K=>?_;simp(disch:=omega) only[kd,aa,tZ,ae,ab];apply K
 refine bu be [⟨2,_,_,_,t1⟩,⟨5,_,_,_,t2⟩] [] (by kernel_rfl) fun _ K=>?_;simp(disch:=omega) only[kd,bz,aa,ab,af];apply K
 refine aF (aD fun _ K=>?_);simp(disch:=omega) only[kd,aa,ab,hs'];apply K;refine aQ rfl (aM ?_);show bo _ _ _ _;refine aF (aG [⟨2,_,_,_,h3⟩] [] fun _ K=>?_);simp(disch:=omega) only[kd,bz,aa];apply K;refine aQ rfl (aM ?_);show bo _ _ _ _;refine bu be [⟨4,_,_,_,h4⟩,⟨5,_,_,_,h5⟩] [] (by kernel_rfl) fun _ K=>?_;simp(disch:=omega) only[kd,bz,tZ,aa,ab,af];apply K
 (refine aH ⟨.inr rfl,aJ rfl ?_ rfl⟩;simp(disch:=omega) only[kd,Tryz.results101,ab,aa,tZ])
theorem MY (a b:Int) (ha:Bh a) (hb:Bh b):CallC Tryz.prog 57 [tZ a,tZ b] ⟨[],tZ (a-b)⟩:=by
 have h1:=Is b hb.bg;have h2:=vn a (-b) ha hb.neg;rw[<- Int.sub_eq_add_neg]at h2;refine aI Tryz.func57 rfl (by kernel_rfl) ?_;rw[Tryz.ntmps57];refine aD fun _ K=>?_;simp(disch:=omega) only[kd,aa,tZ,ae,ab];apply K
 refine bu be [⟨2,_,_,_,h1⟩,⟨3,_,_,_,h2⟩] [] (by kernel_rfl) fun _ K=>?_;simp(disch:=omega) only[kd,tZ,aa,ab,af];apply K
 (refine aH ⟨.inr rfl,aJ rfl ?_ rfl⟩;simp(disch:=omega) only[kd,Tryz.results57,ab,aa,tZ])
theorem pn: ∀(l:List Nat) (k v o:Nat),l[k]?=some o->natV (l.set k v)+o*4294967296^k=natV l+v*4294967296^k
 |[],k,v,o,h=>by simp at h
 |a::l,0,v,o,h=>by simp at h;subst h;simp[natV];omega
 |a::l,k+1,v,o,h=>by
  simp at h;have:=pn l k v o h;simp only[List.set_cons_succ,natV,Nat.pow_succ];have e1:o*(4294967296^k*4294967296)=4294967296*(o*4294967296^k):=by rw[<- Nat.mul_assoc,Nat.mul_comm]
  have e2:v*(4294967296^k*4294967296)=4294967296*(v*4294967296^k):=by rw[<- Nat.mul_assoc,Nat.mul_comm]
  rw[e1,e2];omega
theorem xD {l:List Nat} (h:Lmb l) {k v:Nat} (hv:v<4294967296):Lmb (l.set k v):=fun a ha=>by
 rcases List.mem_or_eq_of_mem_set ha with ha|rfl
 ·exact h a ha
 exact hv
theorem tM (n:Nat):natV (ae n 0)=0:=by induction n with
 |zero=>rfl
 |succ n ih=>simp[List.replicate_succ,natV,ih]
theorem bF {l:List Nat} {i a:Nat} (h:l[i]?=some a):natV (l.take (i+1))=natV (l.take i)+a*4294967296^i:=by
 obtain⟨h1,rfl⟩:=List.getElem?_eq_some_iff.1 h;rw[List.take_succ_eq_append_getElem h1,iz,List.length_take,Nat.min_eq_left (by omega)];simp[natV,Nat.mul_comm]
theorem lw (n:Nat):ae n [AV.p (.raw (.int .u32 0))]=lc fU (ae n 0):=by simp[lc,fU]
theorem dr (l:List Nat) (k v:Nat):(lc fU l).set k [AV.p (.raw (.int .u32 (v:Int)))]=lc fU (l.set k v):=by simp[lc,fU,List.map_set]
structure Ef (A B:List Nat) where
 i:Nat
 O:List Nat
 hi:i<=A.length
 len:O.length=A.length+B.length
 lmb:Lmb O
 val:natV O=natV (A.take i)*natV B
 zero: ∀k,i+B.length<=k->k<A.length+B.length->O[k]?=some 0
structure Gn (A B:List Nat) (i a:Nat) where
 j:Nat
 O:List Nat
 c:Nat
 hj:j<=B.length
 len:O.length=A.length+B.length
 lmb:Lmb O
 hc:c<4294967296
 val:natV O+c*4294967296^(i+j)=natV (A.take i)*natV B+a*natV (B.take j)*4294967296^i
 zero: ∀k,i+B.length<=k->k<A.length+B.length->O[k]?=some 0
theorem nE {a b:Nat} (ha:a<4294967296) (hb:b<4294967296):a*b<=18446744065119617025:=by
 have:a*b<=4294967295*4294967295:=Nat.mul_le_mul (by omega) (by omega);omega
theorem v8 {A B:List Nat} {i a:Nat} (g:Gn A B i a) {y o:Nat} (hy:B[g.j]?=some y) (ho:g.O[i+g.j]?=some o) (hi:i<A.length) (ha:a<4294967296) (hy':y<4294967296):
  ∃g':Gn A B i a,g'.j=g.j+1/\g'.O=g.O.set (i+g.j) ((g.c+(a*y+o))%4294967296)/\g'.c=(g.c+(a*y+o))/4294967296:=by
 have hjl:g.j<B.length:=(List.getElem?_eq_some_iff.1 hy).1;have ho':=cn g.lmb ho;have hb:=nE ha hy';have hc:=g.hc;refine⟨⟨g.j+1,g.O.set (i+g.j) ((g.c+(a*y+o))%4294967296),(g.c+(a*y+o))/4294967296,hjl,by simp[g.len],xD g.lmb (Nat.mod_lt _ (by omega)),?_,?_,fun k h1 h2=>?_⟩,rfl,rfl,rfl⟩
 ·generalize a*y=p at*
  omega
 ·have h1:=pn g.O (i+g.j) ((g.c+(a*y+o))%4294967296) o ho;have h2:=bF hy;have h3:=g.val;rw[h2,show i+(g.j+1)=i+g.j+1 by omega,Nat.pow_succ,Nat.mul_add a,Nat.add_mul];have e1:a*(y*4294967296^g.j)*4294967296^i=a*y*4294967296^(i+g.j):=by
   rw[<- Nat.mul_assoc,Nat.mul_assoc,<- Nat.pow_add,Nat.add_comm g.j i]
  rw[e1];generalize 4294967296^(i+g.j)=X at*
  generalize a*y=p at*
  have e2:(g.c+(p+o))=(g.c+(p+o))%4294967296+4294967296*((g.c+(p+o))/4294967296):=(Nat.mod_add_div _ _).symm;generalize hr:(g.c+(p+o))%4294967296=r at*
  generalize hq:(g.c+(p+o))/4294967296=q at*
  generalize natV (g.O.set (i+g.j) r)=N at*
  generalize natV g.O=M at*
  generalize natV (A.take i)*natV B=U at*
  generalize a*natV (B.take g.j)*4294967296^i=V at*
  -- N + o X = M + r X, M + c X = U + V, c + p + o = r + B q
  have e3:g.c*X+(p*X+o*X)=r*X+q*(X*4294967296):=by
   have:=congrArg (· *X) e2;simp only[Nat.add_mul]at this;rw[this]
   congr 1
   rw[Nat.mul_comm 4294967296 q,Nat.mul_assoc,Nat.mul_comm 4294967296 X]
  omega
 rw[List.getElem?_set_ne (by omega)];exact g.zero k h1 h2
theorem v7 {A B:List Nat} {i a:Nat} (hA:A[i]?=some a) (g:Gn A B i a) (hj: ¬g.j<B.length): ∃g':Ef A B,g'.i=i+1/\g'.O=g.O.set (i+B.length) g.c:=by
 have hi:=(List.getElem?_eq_some_iff.1 hA).1;have hjl:=g.hj;have e:g.j=B.length:=by omega
 have hz:=g.zero (i+B.length) (Nat.le_refl _) (by omega);refine⟨⟨i+1,g.O.set (i+B.length) g.c,hi,by simp[g.len],xD g.lmb g.hc,?_,fun k h1 h2=>?_⟩,rfl,rfl⟩
 ·have h1:=pn g.O (i+B.length) g.c 0 hz;have h2:=g.val;rw[e,List.take_length]at h2;rw[bF hA,Nat.add_mul];have e1:a*4294967296^i*natV B=a*natV B*4294967296^i:=by rw[Nat.mul_assoc,Nat.mul_comm (4294967296^i),<- Nat.mul_assoc]
  rw[e1];omega
 rw[List.getElem?_set_ne (by omega)];exact g.zero k (by omega) h2
theorem DH (a b:Int):fB (!(decide (a<0)==decide (b<0))) (a.natAbs*b.natAbs)=a*b:=by
 have h:=Int.natAbs_mul a b;unfold fB;rcases Int.lt_or_le a 0 with ha|ha<;>rcases Int.lt_or_le b 0 with hb|hb
 ·have:0<a*b:=Int.mul_pos_of_neg_of_neg ha hb;simp[ha,hb];omega
 ·have:a*b<=0:=Int.mul_nonpos_of_nonpos_of_nonneg (by omega) hb;have hb': ¬b<0:=by omega
  simp[ha,hb'];omega
 ·have:a*b<=0:=Int.mul_nonpos_of_nonneg_of_nonpos ha (by omega);have ha': ¬a<0:=by omega
  simp[ha',hb];omega
 have:0<=a*b:=Int.mul_nonneg ha hb;have ha': ¬a<0:=by omega
 have hb': ¬b<0:=by omega
 simp[ha',hb'];omega
abbrev yi (neg:Bool) (A:List Nat):List OObj:=[⟨42,2,[[.p (.raw (.bool neg)),.p (.sl (ls fU A))]]⟩]
abbrev xf:List OObj:=[⟨42,2,[[.raw (.bool false),.raw (.slice none 0 0)]]⟩]
theorem lU (a b:Int) (ha:Bh a) (hb:Bh b):CallC Tryz.prog 21 [tZ a,tZ b] ⟨[],tZ (a*b)⟩:=by
 have la:=ha.len;have lb:=hb.len;have hlA:=aW a.natAbs;have hlB:=aW b.natAbs;have vA:=aN a.natAbs;have vB:=aN b.natAbs;refine aI Tryz.func21 rfl (by kernel_rfl) ?_;rw[Tryz.ntmps21];refine aD fun _ K=>?_;simp(disch:=omega) only[kd,aa,tZ,ae,ab];apply K
 generalize aP a.natAbs=A at*
 generalize aP b.natAbs=B at*
 have e0:((A.length:Int)+(B.length:Int)).toNat=A.length+B.length:=by omega
 refine aD fun _ K=>?_;simp(disch:=omega) only[kd,aa,ab,aO,e0,lw];apply K
 refine aF (aD fun _ K=>?_);simp(disch:=omega) only[kd,aa,ab];apply K;refine aX (G:=Ef A B) (fun g=>⟨(jk::jk::.one (.ptr 2 0 0 0)::.one (.ptr 3 0 0 0)::.one (.ptr 4 0 0 0)::.one (.sl 18 0 0 (A.length+B.length))::j4 (j4 (j4 (jk::jk::bz A::rN A.length::rN g.i::j16 (j16 (j16 (j4 (jk::jk::[])))))))),Hm [(2,yi (decide (a<0)) A),(3,yi (decide (b<0)) B),(4,xf),(18,[⟨79,1,lc fU g.O⟩])]⟩) (fun g=>A.length-g.i) ⟨0,ae (A.length+B.length) 0,by omega,by simp,fun x hx=>by simp at hx;omega,by simp[tM,natV],fun k h1 h2=>by rw[List.getElem?_replicate,if_pos h2]⟩ ?_ ?_
 ·refine aE ⟨rfl,rfl,rfl,rfl,trivial⟩ ?_;simp[wk]
 rintro⟨i,O,hi,len,lmb,val,zero⟩;simp only;by_cases hm:i<A.length
 ·obtain⟨x,hx⟩:=getElem?_of_lt hm;have hx':=cn hlA hx;refine aD fun _ K=>?_;simp(disch:=omega) only[kd,bz];apply K
  refine bx rfl ?_;refine aF (aK ?_);refine aD fun _ K=>?_;simp(disch:=omega) only[kd,aa,hx];apply K
  refine aD fun _ K=>?_;simp only[kd];apply K
  refine aF (aD fun _ K=>?_);simp(disch:=omega) only[kd,aa,ab];apply K;refine aX (G:=Gn A B i x) (fun g=>⟨(jk::jk::.one (.ptr 2 0 0 0)::.one (.ptr 3 0 0 0)::.one (.ptr 4 0 0 0)::.one (.sl 18 0 0 (A.length+B.length))::rN i::.raw (.int .u32 (x:Int))::.raw (.int .u64 (g.c:Int))::j4 (j4 (jk::jk::jk::bz A::rN A.length::rN i::j4 (jk::bz B::rN B.length::rN g.j::j16 (j16 (j4 (j4 (j4 (jk::jk::[]))))))))),Hm [(2,yi (decide (a<0)) A),(3,yi (decide (b<0)) B),(4,xf),(18,[⟨79,1,lc fU g.O⟩])]⟩) (fun g=>B.length-g.j) ⟨0,O,0,by omega,len,lmb,by omega,by simpa[natV] using val,zero⟩ ?_ ?_
  ·refine aE ⟨rfl,rfl,rfl,rfl,trivial⟩ ?_;simp[wk]
  intro g;by_cases hn:g.j<B.length
  ·obtain⟨y,hy⟩:=getElem?_of_lt hn;have hy':=cn hlB hy;have hlen:=g.len;obtain⟨o,ho⟩:=getElem?_of_lt (show i+g.j<g.O.length by omega);have ho':=cn g.lmb ho;have hb:=nE hx' hy';have hgc:=g.hc;obtain⟨g',q1,q2,q3⟩:=v8 g hy ho hm hx' hy';have e1:((i:Int)+(g.j:Int)).toNat=i+g.j:=by omega
   have e2:(x:Int)*(y:Int)=((x*y:Nat):Int):=by simp
   generalize hp:x*y=p at*
   have e3:IntKind.u32.wrap ((g.c:Int)+((p:Int)+(o:Int)))=(((g.c+(p+o))%4294967296:Nat):Int):=by rw[<- sh];congr 1<;>omega
   have e4:Int.fdiv ((g.c:Int)+((p:Int)+(o:Int))) (2^(min 32 IntKind.u64.bits))=(((g.c+(p+o))/4294967296:Nat):Int):=by rw[<- Ge];congr 1<;>omega
   refine aD fun _ K=>?_;simp(disch:=omega) only[kd,bz];apply K
   refine bx rfl ?_;refine aF (aK ?_);refine aD fun _ K=>?_;simp(disch:=omega) only[kd,aa,hy];apply K
   refine aD fun _ K=>?_;simp(disch:=omega) only[kd,aa,dc,e2,aO,e1,ab,ho];apply K
   refine aD fun _ K=>?_;simp(disch:=omega) only[kd,aa,aO,e3,e1,ab,ho,dr];apply K
   refine aL fun _ K=>?_;simp only[kd,aa,Int.reduceLE,am,e4];apply K
   show bo _ _ _ _;refine aL fun _ K=>?_;simp(disch:=omega) only[kd,aO];apply K
   refine⟨g',by omega,aE ⟨rfl,rfl,rfl,by rw[q2];rfl,trivial⟩ ?_⟩;simp[wk,q1,q3]
  have hgj:=g.hj;have hgc:=g.hc;have hgl:=g.len;obtain⟨g',q1,q2⟩:=v7 hx g hn;have e1:((i:Int)+(B.length:Int)).toNat=i+B.length:=by omega
  have e3:IntKind.u32.wrap (g.c:Int)=(g.c:Int):=by rw[sh];omega
  refine aD fun _ K=>?_;simp(disch:=omega) only[kd,bz];apply K
  refine bG rfl ?_;show bo _ _ _ _;have hz:=g.zero (i+B.length) (Nat.le_refl _) (by omega);refine aL fun _ K=>?_;simp(disch:=omega) only[kd,aa,ab,aO,e3,e1,hz,dr];apply K
  show bo _ _ _ _;refine aL fun _ K=>?_;simp(disch:=omega) only[kd,aO];apply K
  refine⟨g',by omega,aE ⟨rfl,rfl,rfl,by rw[q2];rfl,trivial⟩ ?_⟩;simp[wk,q1]
 have hfin:natV O=a.natAbs*b.natAbs:=by
  have:i=A.length:=by omega
  rw[val,this,List.take_length,vA,vB]
 have h4:=jp (!(decide (a<0)==decide (b<0))) O lmb (by omega);rw[hfin,DH]at h4;refine aD fun _ K=>?_;simp(disch:=omega) only[kd,bz];apply K
 refine bG rfl ?_;show bo _ _ _ _;refine bo.weak (bH 18 (cw rfl)) ?_;have eT:List.take (A.length+B.length) O=O:=List.take_of_length_le (by omega);simp(disch:=omega) only[kd,tZ,ab,eT];refine aG [⟨6,_,_,_,h4⟩] [] fun _ K=>?_;simp(disch:=omega) only[kd,bz,tZ,aa,ab];apply K
 (refine aH ⟨.inr rfl,aJ rfl ?_ rfl⟩;simp(disch:=omega) only[kd,Tryz.results21,ab,aa])
def dblL:List Nat->Nat->List Nat
 |[],b=>[b]
 |x::l,b=>(2*x+b)%4294967296::dblL l (x/2147483648)
theorem we: ∀(l:List Nat) (b:Nat),Lmb l->b<=1->natV (dblL l b)=2*natV l+b
 |[],b,_,_=>by simp[dblL,natV]
 |x::l,b,hl,hb=>by
  rw[dA]at hl;have hx:=hl.1;simp only[dblL,natV,we l (x/2147483648) hl.2 (by omega)];omega
theorem zw: ∀(l:List Nat) (b:Nat),Lmb l->b<=1->Lmb (dblL l b)
 |[],b,_,hb=>by simp[dblL,Lmb];omega
 |x::l,b,hl,hb=>by
  rw[dA]at hl;have hx:=hl.1;rw[dblL,dA];exact⟨Nat.mod_lt _ (by omega),zw l _ hl.2 (by omega)⟩
theorem yT: ∀(l:List Nat) (b:Nat),(dblL l b).length=l.length+1
 |[],b=>rfl
 |x::l,b=>by simp[dblL,yT l]
theorem qA (a b n:Nat) (h:b<2^n):(a*2^n)|||b=a*2^n+b:=by
 have:=Nat.shiftLeft_add_eq_or_of_lt h a;rw[Nat.shiftLeft_eq]at this;exact this.symm
theorem rW (a b n:Nat) (h:b<2^n):b|||(a*2^n)=a*2^n+b:=by rw[Nat.or_comm,qA a b n h]
theorem Pz (a b:Nat) (ha:a<4294967296) (hb:b<4294967296):IntKind.u32.wrap (((BitVec.ofInt IntKind.u32.bits (a:Int)|||BitVec.ofInt IntKind.u32.bits (b:Int)).toNat:Nat):Int)=((a|||b:Nat):Int):=by
 rw[sh];show(((BitVec.ofInt 32 (a:Int)|||BitVec.ofInt 32 (b:Int)).toNat%4294967296:Nat):Int)=_;rw[BitVec.toNat_or];have e: ∀x:Nat,x<4294967296->(BitVec.ofInt 32 (x:Int)).toNat=x:=fun x hx=>by rw[BitVec.toNat_ofInt];show((x:Int)%4294967296).toNat=x;omega
 rw[e a ha,e b hb,Nat.mod_eq_of_lt];exact Nat.or_lt_two_pow (n:=32) ha hb
theorem xL (a b:Nat) (ha:a<18446744073709551616) (hb:b<18446744073709551616):IntKind.u64.wrap (((BitVec.ofInt IntKind.u64.bits (a:Int)|||BitVec.ofInt IntKind.u64.bits (b:Int)).toNat:Nat):Int)=((a|||b:Nat):Int):=by
 rw[IntKind.wrap_u64];show((BitVec.ofInt 64 (a:Int)|||BitVec.ofInt 64 (b:Int)).toNat:Int)%_=_;rw[BitVec.toNat_or];have e: ∀x:Nat,x<18446744073709551616->(BitVec.ofInt 64 (x:Int)).toNat=x:=fun x hx=>by rw[BitVec.toNat_ofInt];show((x:Int)%18446744073709551616).toNat=x;omega
 rw[e a ha,e b hb];have:=Nat.or_lt_two_pow (n:=64) ha hb;generalize a|||b=c at*
 omega
theorem Pj (a b:Nat) (ha:a<4294967296) (hb:b<4294967296):IntKind.u32.wrap (((BitVec.ofInt IntKind.u32.bits (a:Int)&&&BitVec.ofInt IntKind.u32.bits (b:Int)).toNat:Nat):Int)=((a&&&b:Nat):Int):=by
 rw[sh];show(((BitVec.ofInt 32 (a:Int)&&&BitVec.ofInt 32 (b:Int)).toNat%4294967296:Nat):Int)=_;rw[BitVec.toNat_and];have e: ∀x:Nat,x<4294967296->(BitVec.ofInt 32 (x:Int)).toNat=x:=fun x hx=>by rw[BitVec.toNat_ofInt];show((x:Int)%4294967296).toNat=x;omega
 rw[e a ha,e b hb,Nat.mod_eq_of_lt];exact Nat.lt_of_le_of_lt Nat.and_le_left ha
structure P3 (l:List Nat) (b:Nat) where
 i:Nat
 o:List Nat
 c:Nat
 hi:i<=l.length
 hc:c<=1
 ho:o.length=i
 h:o++dblL (l.drop i) c=dblL l b
theorem Hd (l:List Nat) (b:Nat) (lm:Lmb l) (hb:b<=1) (bl:l.length<=1073741824):CallC Tryz.prog 156 [bz l,.raw (.int .u32 (b:Int))] ⟨[],bz (dblL l b)⟩:=by
 refine aI Tryz.func156 rfl (by kernel_rfl) ?_;rw[Tryz.ntmps156];refine aD fun _ K=>?_;simp only[kd,bz,aa,ae];apply K
 refine aD fun _ K=>?_;simp only[kd];apply K
 refine aF (aD fun _ K=>?_);simp only[kd,aa];apply K;refine aX (G:=P3 l b) (fun g=>⟨(bz l::.raw (.int .u32 (g.c:Int))::jk::jk::.raw (.slice none 0 0)::.one (.sl 20 0 0 g.o.length)::jk::jk::bz l::rN l.length::rN g.i::j16 (jk::[])),Hm [(20,[⟨79,1,lc fU g.o⟩])]⟩) (fun g=>l.length-g.i) ⟨0,[],b,by omega,hb,rfl,rfl⟩ ?_ ?_
 ·refine(ef (k:=5) (d:=20) 79 1 (by omega) rfl rfl).trans (aE ⟨rfl,trivial⟩ ?_);simp[wk]
 rintro⟨i,o,c,hi,hc,ho,h⟩;simp only;by_cases hm:i<l.length
 ·obtain⟨a,ha⟩:=getElem?_of_lt hm;have ha':=cn lm ha;have e1:IntKind.u32.wrap ((a:Int)*2^min 1 IntKind.u32.bits)=((2*a%4294967296:Nat):Int):=by
   rw[<- sh];congr 1;show(a:Int)*2=_;omega
  have e2:=Pz (2*a%4294967296) c (by omega) (by omega);have e3:(2*a%4294967296)|||c=(2*a+c)%4294967296:=by
   have:=qA (a%2147483648) c 1 (by omega);rw[show 2*a%4294967296=a%2147483648*2^1 by omega,this];omega
  rw[e3]at e2;have e4:Int.fdiv (a:Int) (2^(min 31 IntKind.u32.bits))=((a/2147483648:Nat):Int):=by
   show Int.fdiv (a:Int) 2147483648=_;rw[Int.fdiv_eq_ediv_of_nonneg _ (by omega)];omega
  refine aD fun _ K=>?_;simp(disch:=omega) only[kd,bz];apply K
  refine bx rfl ?_;refine aF (aK ?_);refine aD fun _ K=>?_;simp(disch:=omega) only[kd,aa,ha];apply K
  refine aD fun _ K=>?_;simp(disch:=omega) only[kd,aa,Int.reduceLE,am,e1,e2,Nat.reduceMul,ah,iv];apply K
  refine aL fun _ K=>?_;simp only[kd,aa,Int.reduceLE,am,e4];apply K
  show bo _ _ _ _;refine aL fun _ K=>?_;simp(disch:=omega) only[kd,aO];apply K
  refine⟨⟨i+1,o++[(2*a+c)%4294967296],a/2147483648,by omega,by omega,by simp[ho],?_⟩,by simp only;omega,aE ⟨rfl,trivial⟩ ?_⟩
  ·rw[<- h,dS ha,dblL,List.append_assoc];rfl
  simp[wk]
 refine aD fun _ K=>?_;simp(disch:=omega) only[kd,bz];apply K
 refine bG rfl ?_;show bo _ _ _ _;refine aD fun _ K=>?_;simp(disch:=omega) only[kd,aa,Nat.reduceMul,ah,iv];apply K
 have hfin:dblL l b=o++[c]:=by rw[<- h,dy (by omega:l.length<=i),dblL]
 (refine aH ⟨.inr rfl,iM 20 (cw rfl) ?_ rfl⟩;simp(disch:=omega) only[kd,Tryz.results156,bz])
 simp only[hfin];rw[List.take_of_length_le (by simp)]
structure Pd (l:List Nat) where
 i:Nat
 u:Nat
 hi:i<=l.length/\i<=2
 hu:u=natV (l.take i)
theorem eI {l:List Nat} (h:Lmb l) (k:Nat):natV (l.take k)<4294967296^k:=by
 have h1:Lmb (l.take k):=fun a ha=>h a (List.mem_of_mem_take ha)
 have h2:=fo h1;exact Nat.lt_of_lt_of_le h2 (Nat.pow_le_pow_right (by omega) (by rw[List.length_take];omega))
theorem Ib (l:List Nat) (lm:Lmb l) (bl:l.length<=1073741824):CallC Tryz.prog 122 [bz l] ⟨[],.raw (.int .u64 (natV (l.take 2):Nat))⟩:=by
 refine aI Tryz.func122 rfl (by kernel_rfl) ?_;rw[Tryz.ntmps122];refine aD fun _ K=>?_;simp only[kd,bz,ae];apply K
 refine aD fun _ K=>?_;simp only[kd];apply K
 refine aF (aD fun _ K=>?_);simp only[kd];apply K;refine aX (G:=Pd l) (fun g=>⟨(bz l::jk::.raw (.int .u64 0)::.raw (.int .u64 (g.u:Int))::rN g.i::j16 (j4 (jk::[]))),Hm []⟩) (fun g=>l.length-g.i) ⟨0,0,⟨by omega,by omega⟩,rfl⟩ ?_ ?_
 ·refine aE trivial ?_;simp[wk]
 rintro⟨i,u,hi,hu⟩;simp only;have hlt:=eI lm i;rw[<- hu]at hlt;by_cases hm:i<l.length/\i<2
 ·obtain⟨a,ha⟩:=getElem?_of_lt hm.1;have ha':=cn lm ha;have hm2:=hm.2;have hm1:=hm.1;have hu2:=bF ha;rw[<- hu]at hu2;refine aF (aD fun _ K=>?_);simp(disch:=omega) only[kd,aa,bz];apply K;refine aU rfl (aM ?_);refine aF (aK ?_);have hi2:i=0\/i=1:=by omega
  rcases hi2 with rfl|rfl
  ·have e1:IntKind.u64.wrap ((a:Int)*2^min (32*((0:Nat):Int)).toNat IntKind.u64.bits)=(a:Int):=by
    rw[IntKind.wrap_u64];show((a:Int)*1)%_=_;omega
   have hu0:u=0:=by simpa[natV] using hu
   have e2:=xL u a (by omega) (by omega);rw[hu0,Nat.zero_or,<- hu0]at e2;refine aL fun _ K=>?_;simp(disch:=omega) only[kd,aa,ha,dc,aO,e1,e2];apply K
   show bo _ _ _ _;refine aL fun _ K=>?_;simp(disch:=omega) only[kd,aa,aO];apply K
   refine⟨⟨1,a,⟨by omega,by omega⟩,by rw[hu2,hu0];simp⟩,by simp only;omega,aE trivial ?_⟩;simp[wk]
  have e1:IntKind.u64.wrap ((a:Int)*2^min (32*((1:Nat):Int)).toNat IntKind.u64.bits)=((a*4294967296:Nat):Int):=by
   rw[IntKind.wrap_u64];show((a:Int)*4294967296)%_=_;omega
  simp only[Nat.pow_one]at hlt;have e2:=xL u (a*4294967296) (by omega) (by omega);rw[show a*4294967296=a*2^32 from rfl,rW _ _ _ hlt,show a*2^32=a*4294967296 from rfl]at e2;refine aL fun _ K=>?_;simp(disch:=omega) only[kd,aa,ha,dc,aO,e1,e2];apply K
  show bo _ _ _ _;refine aL fun _ K=>?_;simp(disch:=omega) only[kd,aa,aO];apply K
  refine⟨⟨2,a*4294967296+u,⟨by omega,by omega⟩,by rw[hu2];omega⟩,by simp only;omega,aE trivial ?_⟩;simp[wk]
 have hfin:u=natV (l.take 2):=by
  rw[hu];by_cases h2:i=2
  ·rw[h2]
  rw[List.take_of_length_le (by omega),List.take_of_length_le (by omega)]
 rw[<- hfin];by_cases h3:i<l.length
 ·refine aF (aD fun _ K=>?_);simp(disch:=omega) only[kd,aa,bz];apply K;refine aQ rfl (bN ?_);show bo _ _ _ _;refine aD fun _ K=>?_;simp only[kd];apply K
  (refine aH ⟨.inr rfl,aJ rfl ?_ rfl⟩;simp(disch:=omega) only[kd,Tryz.results122])
 refine aF (aD fun _ K=>?_);simp(disch:=omega) only[kd,aa,bz];apply K;refine aQ rfl (bN ?_);show bo _ _ _ _;refine aD fun _ K=>?_;simp only[kd];apply K
 (refine aH ⟨.inr rfl,aJ rfl ?_ rfl⟩;simp(disch:=omega) only[kd,Tryz.results122])
def rC (z:Int):TV:=if -9223372036854775808<=z/\z<=9223372036854775807 then .tup [(false,[.p (.raw (.int .i64 z))]),(false,[.p (.raw (.bool true))])]else .tup [(false,[.p (.raw (.int .i64 0))]),(false,[.p (.raw (.bool false))])]
theorem BH {n:Nat} (h:2<(aP n).length):18446744073709551616<=n:=by
 have h1:=sW (b7 n) (by intro h0;rw[h0]at h;simp at h);rw[aN]at h1;have h2:4294967296^2<=4294967296^((aP n).length-1):=Nat.pow_le_pow_right (by omega) (by omega);omega
theorem iw {n:Nat} (h:(aP n).length<=2):n<18446744073709551616:=by
 have h1:=fo (aW n);rw[aN]at h1;have h2:4294967296^(aP n).length<=4294967296^2:=Nat.pow_le_pow_right (by omega) h;omega
theorem Ks (z:Int) (h:Bg z):CallC Tryz.prog 88 [tZ z] ⟨[],rC z⟩:=by
 have ht:=iN (aP z.natAbs) h.len;rw[gK]at ht;have hw:=Ib (aP z.natAbs) (aW _) h.len;have hl:=h.len;by_cases h2:2<(aP z.natAbs).length
 ·have hb:=BH h2;rw[show rC z= .tup [(false,[.p (.raw (.int .i64 0))]),(false,[.p (.raw (.bool false))])] by unfold rC;rw[if_neg (by omega)]];refine aI Tryz.func88 rfl (by kernel_rfl) ?_;rw[Tryz.ntmps88];refine aD fun _ K=>?_;simp(disch:=omega) only[kd,aa,tZ,ae];apply K
  refine aG [⟨2,_,_,_,ht⟩] [] fun _ K=>?_;simp only[kd,bz,aa];apply K
  refine aG [⟨1,_,_,_,hw⟩] [] fun _ K=>?_;simp only[kd,bz,aa];apply K
  refine aF (aK ?_);refine aD fun _ K=>?_;simp(disch:=omega) only[kd,aa];apply K
  refine aU rfl ?_;refine aD fun _ K=>?_;simp only[kd];apply K
  (refine aH ⟨.inr rfl,aJ rfl ?_ rfl⟩;simp(disch:=omega) only[kd,Tryz.results88])
 have hb:=iw (n:=z.natAbs) (by omega);rw[List.take_of_length_le (by omega),aN]at hw;by_cases hz:z<0
 ·have e1:IntKind.i64.wrap (IntKind.u64.wrap (0-(z.natAbs:Int)))=z\/9223372036854775808<z.natAbs:=by
   rw[IntKind.wrap_u64];by_cases hz2:z.natAbs<=9223372036854775808
   ·left;have:(0-(z.natAbs:Int))%18446744073709551616=18446744073709551616+z:=by omega
    rw[this,IntKind.wrap_i64];omega
   right;omega
  by_cases hz2:z.natAbs<=9223372036854775808
  ·replace e1:=e1.resolve_right (by omega)
   rw[show rC z= .tup [(false,[.p (.raw (.int .i64 z))]),(false,[.p (.raw (.bool true))])] by unfold rC;rw[if_pos (by omega)]];refine aI Tryz.func88 rfl (by kernel_rfl) ?_;rw[Tryz.ntmps88];refine aD fun _ K=>?_;simp(disch:=omega) only[kd,aa,tZ,ae];apply K
   refine aG [⟨2,_,_,_,ht⟩] [] fun _ K=>?_;simp only[kd,bz,aa];apply K
   refine aG [⟨1,_,_,_,hw⟩] [] fun _ K=>?_;simp only[kd,bz,aa];apply K
   refine aF (aK ?_);refine aD fun _ K=>?_;simp(disch:=omega) only[kd,aa];apply K
   refine aQ rfl ?_;refine aD fun _ K=>?_;simp(disch:=omega) only[kd,aa];apply K
   refine aU rfl ?_;refine aD fun _ K=>?_;simp only[kd,aa,e1];apply K
   (refine aH ⟨.inr rfl,aJ rfl ?_ rfl⟩;simp(disch:=omega) only[kd,Tryz.results88])
  rw[show rC z= .tup [(false,[.p (.raw (.int .i64 0))]),(false,[.p (.raw (.bool false))])] by unfold rC;rw[if_neg (by omega)]];refine aI Tryz.func88 rfl (by kernel_rfl) ?_;rw[Tryz.ntmps88];refine aD fun _ K=>?_;simp(disch:=omega) only[kd,aa,tZ,ae];apply K
  refine aG [⟨2,_,_,_,ht⟩] [] fun _ K=>?_;simp only[kd,bz,aa];apply K
  refine aG [⟨1,_,_,_,hw⟩] [] fun _ K=>?_;simp only[kd,bz,aa];apply K
  refine aF (aK ?_);refine aD fun _ K=>?_;simp(disch:=omega) only[kd,aa];apply K
  refine aQ rfl ?_;refine aD fun _ K=>?_;simp(disch:=omega) only[kd,aa];apply K
  refine aQ rfl ?_;refine aD fun _ K=>?_;simp(disch:=omega) only[kd,aa];apply K
  refine aQ rfl (aM ?_);show bo _ _ _ _;refine aD fun _ K=>?_;simp only[kd];apply K
  (refine aH ⟨.inr rfl,aJ rfl ?_ rfl⟩;simp(disch:=omega) only[kd,Tryz.results88])
 by_cases hz2:z.natAbs<9223372036854775808
 ·have e1:IntKind.i64.wrap (z.natAbs:Int)=z:=by rw[IntKind.wrap_i64];omega
  rw[show rC z= .tup [(false,[.p (.raw (.int .i64 z))]),(false,[.p (.raw (.bool true))])] by unfold rC;rw[if_pos (by omega)]];refine aI Tryz.func88 rfl (by kernel_rfl) ?_;rw[Tryz.ntmps88];refine aD fun _ K=>?_;simp(disch:=omega) only[kd,aa,tZ,ae];apply K
  refine aG [⟨2,_,_,_,ht⟩] [] fun _ K=>?_;simp only[kd,bz,aa];apply K
  refine aG [⟨1,_,_,_,hw⟩] [] fun _ K=>?_;simp only[kd,bz,aa];apply K
  refine aF (aK ?_);refine aD fun _ K=>?_;simp(disch:=omega) only[kd,aa];apply K
  refine aQ rfl ?_;refine aD fun _ K=>?_;simp(disch:=omega) only[kd,aa];apply K
  refine aQ rfl ?_;refine aD fun _ K=>?_;simp(disch:=omega) only[kd,aa];apply K
  refine aU rfl ?_;refine aD fun _ K=>?_;simp only[kd,aa,e1];apply K
  (refine aH ⟨.inr rfl,aJ rfl ?_ rfl⟩;simp(disch:=omega) only[kd,Tryz.results88])
 rw[show rC z= .tup [(false,[.p (.raw (.int .i64 0))]),(false,[.p (.raw (.bool false))])] by unfold rC;rw[if_neg (by omega)]];refine aI Tryz.func88 rfl (by kernel_rfl) ?_;rw[Tryz.ntmps88];refine aD fun _ K=>?_;simp(disch:=omega) only[kd,aa,tZ,ae];apply K
 refine aG [⟨2,_,_,_,ht⟩] [] fun _ K=>?_;simp only[kd,bz,aa];apply K
 refine aG [⟨1,_,_,_,hw⟩] [] fun _ K=>?_;simp only[kd,bz,aa];apply K
 refine aF (aK ?_);refine aD fun _ K=>?_;simp(disch:=omega) only[kd,aa];apply K
 refine aQ rfl ?_;refine aD fun _ K=>?_;simp(disch:=omega) only[kd,aa];apply K
 refine aQ rfl ?_;refine aD fun _ K=>?_;simp(disch:=omega) only[kd,aa];apply K
 refine aQ rfl (aM ?_);show bo _ _ _ _;refine aD fun _ K=>?_;simp only[kd];apply K
 (refine aH ⟨.inr rfl,aJ rfl ?_ rfl⟩;simp(disch:=omega) only[kd,Tryz.results88])
theorem oJ: ∀{l:List Nat} {i x:Nat},Lmb l->l[i]?=some x->natV l/4294967296^i%4294967296=x
 |[],i,x,_,h=>by simp at h
 |a::l,0,x,hl,h=>by
  rw[dA]at hl;simp at h;subst h;have:=hl.1;simp only[natV,Nat.pow_zero];omega
 |a::l,i+1,x,hl,h=>by
  rw[dA]at hl;have ha:=hl.1;simp at h;have:=oJ hl.2 h;rw[Nat.pow_succ,Nat.mul_comm,<- Nat.div_div_eq_div_mul];simp only[natV];rw[show(a+4294967296*natV l)/4294967296=natV l by omega];exact this
theorem IQ (i:Nat):4294967296^i=2^(32*i):=by rw[Nat.pow_mul]
theorem Ex {a k x:Nat} (h:(aP a)[k/32]?=some x):x/2^(k%32)%2=a/2^k%2:=by
 have h1:=oJ (aW a) h;rw[aN,IQ]at h1;rw[<- Nat.toNat_testBit,<- Nat.toNat_testBit,<- h1,show(4294967296:Nat)=2^32 from rfl,Nat.testBit_mod_two_pow,Nat.testBit_div_two_pow];rw[show k%32+32*(k/32)=k by omega];have:k%32<32:=by omega
 simp[this]
structure Nt (a b n:Nat) where
 t:Nat
 O:List Nat
 ht:t<=32*n
 len:O.length=n
 lmb:Lmb O
 val:natV O=a/2^t/b*2^t
theorem Pr (a k:Nat):a/2^k=2*(a/2^(k+1))+a/2^k%2:=by
 rw[Nat.pow_succ,<- Nat.div_div_eq_div_mul];omega
theorem Ha {a b k:Nat} (hb:0<b) (h:2*(a/2^(k+1)%b)+a/2^k%2<b):a/2^k/b=2*(a/2^(k+1)/b)/\a/2^k%b=2*(a/2^(k+1)%b)+a/2^k%2:=by
 have h1:=Pr a k;have h2:=Nat.div_add_mod (a/2^(k+1)) b;generalize a/2^(k+1)=X at*
 generalize a/2^k%2=e at*
 generalize X%b=r at*
 generalize X/b=q at*
 have h3:a/2^k=b*(2*q)+(2*r+e):=by rw[h1,<- h2,Nat.mul_left_comm b 2 q];omega
 rw[h3];exact⟨by rw[Nat.mul_add_div hb,Nat.div_eq_of_lt h,Nat.add_zero],by rw[Nat.mul_add_mod,Nat.mod_eq_of_lt h]⟩
theorem G9 {a b k:Nat} (hb:0<b) (h:b<=2*(a/2^(k+1)%b)+a/2^k%2):a/2^k/b=2*(a/2^(k+1)/b)+1/\a/2^k%b=2*(a/2^(k+1)%b)+a/2^k%2-b:=by
 have h1:=Pr a k;have h2:=Nat.div_add_mod (a/2^(k+1)) b;have hr:a/2^(k+1)%b<b:=Nat.mod_lt _ hb;have he:a/2^k%2<2:=Nat.mod_lt _ (by omega);generalize a/2^(k+1)=X at*
 generalize a/2^k%2=e at*
 generalize X%b=r at*
 generalize X/b=q at*
 have h3:a/2^k=b*(2*q+1)+(2*r+e-b):=by have:=Nat.mul_left_comm b 2 q;rw[h1,<- h2,Nat.mul_add b (2*q) 1,Nat.mul_one];omega
 have h4:2*r+e-b<b:=by omega
 rw[h3];exact⟨by rw[Nat.mul_add_div hb,Nat.div_eq_of_lt h4,Nat.add_zero],by rw[Nat.mul_add_mod,Nat.mod_eq_of_lt h4]⟩
theorem K4 {a b n k:Nat} {O:List Nat} (hb:0<b) (ht:k+1<=32*n) (len:O.length=n) (lmb:Lmb O) (val:natV O=a/2^(k+1)/b*2^(k+1)) (h:2*(a/2^(k+1)%b)+a/2^k%2<b): ∃g:Nt a b n,g.t=k/\g.O=O:=
 ⟨⟨k,O,by omega,len,lmb,by rw[val,(Ha hb h).1,Nat.pow_succ,Nat.mul_comm 2,Nat.mul_assoc,Nat.mul_comm 2]⟩,rfl,rfl⟩
theorem K3 {a b n k x:Nat} {O:List Nat} (hb:0<b) (ht:k+1<=32*n) (len:O.length=n) (lmb:Lmb O) (val:natV O=a/2^(k+1)/b*2^(k+1)) (h:b<=2*(a/2^(k+1)%b)+a/2^k%2) (hx:O[k/32]?=some x): ∃g:Nt a b n,g.t=k/\g.O=O.set (k/32) (x|||2^(k%32)):=by
 have hx':=cn lmb hx;have hj:k%32<32:=Nat.mod_lt _ (by omega);have hor:x|||2^(k%32)<4294967296:=Nat.or_lt_two_pow (n:=32) hx' (Nat.pow_lt_pow_right (by omega) hj);refine⟨⟨k,O.set (k/32) (x|||2^(k%32)),by omega,by simp[len],xD lmb hor,?_⟩,rfl,rfl⟩;have h1:=oJ lmb hx;have h2:=pn O (k/32) (x|||2^(k%32)) x hx;have ek:2^(k+1)=2^(32*(k/32))*2^(k%32+1):=by rw[<- Nat.pow_add];congr 1;omega
 rw[IQ]at h1 h2;rw[(G9 hb h).1];generalize a/2^(k+1)/b=q at*
 have h3:x=q%2^(31-k%32)*2^(k%32+1):=by
  rw[<- h1,val,ek,Nat.mul_comm (2^(32*(k/32))),<- Nat.mul_assoc,Nat.mul_div_cancel _ (Nat.pow_pos (by omega))];rw[show(4294967296:Nat)=2^(31-k%32)*2^(k%32+1) by rw[<- Nat.pow_add,show 31-k%32+(k%32+1)=32 by omega],Nat.mul_mod_mul_right]
 have h4:x|||2^(k%32)=x+2^(k%32):=by
  have:=qA (q%2^(31-k%32)) (2^(k%32)) (k%32+1) (Nat.pow_lt_pow_right (by omega) (by omega));rw[<- h3]at this;exact this
 rw[h4]at h2⊢;rw[Nat.add_mul,<- Nat.pow_add,show k%32+32*(k/32)=k by omega,val]at h2;have h5:(2*q+1)*2^k=q*2^(k+1)+2^k:=by rw[Nat.add_mul,Nat.one_mul,Nat.mul_comm 2 q,Nat.mul_assoc,Nat.mul_comm 2 (2^k),<- Nat.pow_succ]
 rw[h5];generalize natV (O.set (k/32) (x+2^(k%32)))=N at*
 generalize x*2^(32*(k/32))=U at*
 generalize q*2^(k+1)=V at*
 generalize 2^k=W at*
 omega
theorem vM {a n:Nat} (h:(aP a).length=n):a/2^(32*n)=0:=by
 have:=fo (aW a);rw[aN,IQ,h]at this;exact Nat.div_eq_of_lt this
theorem C3 {a b:Nat} (h:b<=a):0<=fz a b:=by unfold fz;split<;>(try split)<;>omega
theorem G0 {a b:Nat} (h:a<b):fz a b<0:=by rw[nf h];decide
abbrev yW (a b:Nat):TV:= .tup [(false,[.p (.sl (ls fU (aP (a/b))))]),(false,[.p (.sl (ls fU (aP (a%b))))])]
theorem oD {a b:Nat} (h:a<=b):(aP a).length<=(aP b).length:=iB (aW _) (b7 _) (by rw[aN,aN];exact h)
theorem Hb (a b:Nat) (hb:0<b) (la:(aP a).length<=536870912) (lb:(aP b).length<=536870912):CallC Tryz.prog 129 [bz (aP a),bz (aP b)] ⟨[],yW a b⟩:=by
 by_cases hs:(aP a).length<=2/\(aP b).length<=2
 ·obtain⟨sa,sb⟩:=hs;have ua:=iw sa;have ub:=iw sb;have h1:=Ib (aP a) (aW _) (by omega);have h2:=Ib (aP b) (aW _) (by omega);rw[List.take_of_length_le sa,aN]at h1;rw[List.take_of_length_le sb,aN]at h2;have hq:a/b<=a:=Nat.div_le_self _ _;have hr:a%b<b:=Nat.mod_lt _ hb;have h3:=yh false (a/b) (by omega);have h4:=yh false (a%b) (by omega);rw[show fB false (a/b)=((a/b:Nat):Int)from rfl]at h3;rw[show fB false (a%b)=((a%b:Nat):Int)from rfl]at h4;have hb0:(b:Int)≠0:=by omega
  have e1:IntKind.u64.wrap (Int.tdiv (a:Int) (b:Int))=((a/b:Nat):Int):=by
   rw[Int.tdiv_eq_ediv_of_nonneg (by omega),<- Int.natCast_ediv];generalize a/b=q at*;rw[IntKind.wrap_u64];omega
  have e2:Int.tmod (a:Int) (b:Int)=((a%b:Nat):Int):=by
   rw[Int.tmod_eq_emod_of_nonneg (by omega),<- Int.natCast_emod]
  unfold yW;generalize a/b=q at*
  generalize a%b=r at*
  refine aI Tryz.func129 rfl (by kernel_rfl) ?_;rw[Tryz.ntmps129];refine aD fun _ K=>?_;simp only[kd,bz,aa,ae];apply K
  refine aF (aD fun _ K=>?_);simp(disch:=omega) only[kd,aa];apply K;refine aU rfl ?_;refine aG [⟨1,_,_,_,h1⟩,⟨3,_,_,_,h2⟩] [] fun _ K=>?_;simp only[kd,bz,aa,af];apply K
  refine bu be [⟨3,_,_,_,h3⟩,⟨8,_,_,_,h4⟩] [] (by kernel_rfl) fun _ K=>?_;simp(disch:=omega) only[kd,tZ,Int.natAbs_natCast,aa,ne_eq,hb0,not_false_eq_true,e1,e2,af];apply K
  (refine aH ⟨.inr rfl,aJ rfl ?_ rfl⟩;simp(disch:=omega) only[kd,Tryz.results129])
 refine aI Tryz.func129 rfl (by kernel_rfl) ?_;rw[Tryz.ntmps129];refine aD fun _ K=>?_;simp only[kd,bz,aa,ae];apply K
 by_cases h3:(aP a).length<=2
 all_goals
  (first|refine aD fun _ K=>?_|refine aF (aD fun _ K=>?_)|refine aF (aF (aD fun _ K=>?_)));simp(disch:=omega) only[kd,aa];apply K
  first|refine aQ rfl (aM ?_)|refine bQ rfl (fun h=>by simp at h<;>omega) (fun _=>aM ?_)
  show bo _ _ _ _
  (first|refine aD fun _ K=>?_|refine aF (aD fun _ K=>?_)|refine aF (aF (aD fun _ K=>?_)));simp(disch:=omega) only[kd,aa,lw];apply K
  (first|refine aD fun _ K=>?_|refine aF (aD fun _ K=>?_)|refine aF (aF (aD fun _ K=>?_)));simp(disch:=omega) only[kd,aa,aO];apply K
  refine aX (G:=Nt a b (aP a).length) (fun g=>⟨(bz (aP a)::bz (aP b)::jk::jk::.one (.sl 33 0 0 (aP a).length)::bz (aP (a/2^g.t%b))::jk::jk::.raw (.int .i64 ((g.t:Int)-1))::j16 (j16 (j16 (j16 (jk::jk::[]))))),Hm [(33,[⟨79,1,lc fU g.O⟩])]⟩) (fun g=>g.t) ⟨32*(aP a).length,ae (aP a).length 0,by omega,by simp,fun x hx=>by simp at hx;omega,by rw[tM,vM rfl];simp⟩ ?_ ?_
  ·refine(ef (k:=5) (d:=900) 79 1 (by omega) rfl rfl).trans ((bH 900 (cw (f:=fU) (l:=[]) rfl)).trans (aE ⟨rfl,trivial⟩ ?_));simp[wk,gC,fb,vM rfl,cy];rfl
  rintro⟨t,O,ht,len,lmb,val⟩;simp only;cases t with
  |zero=>
   have htr:=iN O (by omega);rw[d8 lmb,val]at htr;simp only[Nat.pow_zero,Nat.div_one,Nat.mul_one]at htr;simp only[Nat.pow_zero,Nat.div_one]
   (first|refine aD fun _ K=>?_|refine aF (aD fun _ K=>?_)|refine aF (aF (aD fun _ K=>?_)));simp(disch:=omega) only[kd,bz];apply K
   first|refine aQ rfl (bN ?_)|refine bQ rfl (fun h=>by simp at h<;>omega) (fun _=>bN ?_)
   show bo _ _ _ _;refine bo.weak (bH 33 (cw rfl)) ?_;have eT:List.take (aP a).length O=O:=List.take_of_length_le (by omega);simp(disch:=omega) only[kd,eT]
   (first|refine aG [⟨1,_,_,_,htr⟩] [] fun _ K=>?_|refine aF (aG [⟨1,_,_,_,htr⟩] [] fun _ K=>?_)|refine aF (aF (aG [⟨1,_,_,_,htr⟩] [] fun _ K=>?_)));simp only[kd,bz,aa];apply K
   (refine aH ⟨.inr rfl,aJ rfl ?_ rfl⟩;simp(disch:=omega) only[kd,Tryz.results129])
  |succ k=>
   have ek:((k+1:Nat):Int)-1=(k:Int):=by omega
   simp only[ek];have hki:k/32<(aP a).length:=by omega
   obtain⟨x,hx⟩:=getElem?_of_lt hki;have hx':=cn (aW a) hx;obtain⟨y,hy⟩:=getElem?_of_lt (show k/32<O.length by omega);have hy':=cn lmb hy;have hbit:=Ex hx;have hq:IntKind.i64.wrap (Int.tdiv (k:Int) 32)=((k/32:Nat):Int):=by
    rw[Int.tdiv_eq_ediv_of_nonneg (by omega),IntKind.wrap_i64];omega
   have hr:Int.tmod (k:Int) 32=((k%32:Nat):Int):=by rw[Int.tmod_eq_emod_of_nonneg (by omega)];omega
   have hmin:min (k%32) IntKind.u32.bits=k%32:=by show min (k%32) 32=_;omega
   have e1:Int.fdiv (x:Int) (2^min (k%32) IntKind.u32.bits)=((x/2^(k%32):Nat):Int):=by
    rw[hmin,Int.fdiv_eq_ediv_of_nonneg _ (Int.pow_nonneg (by omega)),Int.natCast_ediv,Int.natCast_pow];rfl
   have hxl:x/2^(k%32)<=x:=Nat.div_le_self _ _;have e2:IntKind.u32.wrap (((BitVec.ofInt IntKind.u32.bits ((x/2^(k%32):Nat):Int)&&&BitVec.ofInt IntKind.u32.bits (1:Int)).toNat:Nat):Int)=((a/2^k%2:Nat):Int):=by
    rw[<- hbit,<- Nat.and_one_is_mod];exact Pj (x/2^(k%32)) 1 (by omega) (by omega)
   have hbl:a/2^k%2<2:=Nat.mod_lt _ (by omega);have hrb:a/2^(k+1)%b<b:=Nat.mod_lt _ hb;have lr:=oD (Nat.le_of_lt hrb);have h1:=Hd (aP (a/2^(k+1)%b)) (a/2^k%2) (aW _) (by omega) (by omega);have h2:=iN (dblL (aP (a/2^(k+1)%b)) (a/2^k%2)) (by rw[yT];omega);rw[d8 (zw _ _ (aW _) (by omega)),we _ _ (aW _) (by omega),aN]at h2;by_cases hge:b<=2*(a/2^(k+1)%b)+a/2^k%2
   ·obtain⟨g',q1,q2⟩:=K3 hb ht len lmb val hge hy;have hrest:=(G9 hb hge).2;have lr':=i6 (n:=2*(a/2^(k+1)%b)+a/2^k%2) (k:=(aP b).length+1) (by
     have:=fo (aW b);rw[aN]at this;have hlt: ∀r e P:Nat,r<b->e<2->b<P->2*r+e<P*4294967296:=by intros;omega
     exact Nat.lt_of_lt_of_le (hlt _ _ _ hrb hbl this) (Nat.le_of_eq (Nat.pow_succ ..).symm))
    generalize 2*(a/2^(k+1)%b)+a/2^k%2=R at*
    have h3:=C6 (aP R) (aP b) (aW _) (aW _) (b7 _) (b7 _) (by omega) (by omega);rw[aN,aN]at h3;have hc:=C3 hge;have h4:=lg (aP R) (aP b) (aW _) (aW _) (by omega) (by omega);have h5:=iN (diffL (aP R) (aP b) 0) (by rw[i4];omega);have hd:=gU (aP R) (aP b) 0 (aW _) (aW _) (by omega) (oD hge) (by rw[aN,aN];exact hge);rw[aN,aN]at hd;rw[d8 (i7 _ _ _),show natV (diffL (aP R) (aP b) 0)=a/2^k%b by omega]at h5;have hp2:2^(k%32)<4294967296:=Nat.pow_lt_pow_right (a:=2) (n:=32) (by omega) (Nat.mod_lt _ (by omega));have e3:IntKind.u32.wrap (1*2^min (k%32) IntKind.u32.bits)=((2^(k%32):Nat):Int):=by
     rw[hmin,Int.one_mul,show((2:Int)^(k%32))=((2^(k%32):Nat):Int) by rw[Int.natCast_pow];rfl,sh,Nat.mod_eq_of_lt hp2]
    have e4:=Pz y (2^(k%32)) hy' hp2
    (first|refine aD fun _ K=>?_|refine aF (aD fun _ K=>?_)|refine aF (aF (aD fun _ K=>?_)));simp(disch:=omega) only[kd,bz];apply K
    first|refine aU rfl (aM ?_)|refine bQ rfl (fun _=>aM ?_) (fun h=>by simp at h<;>omega)
    refine aF (aK ?_)
    (first|refine aG [⟨10,_,_,_,h1⟩,⟨11,_,_,_,h2⟩] [] fun _ K=>?_|refine aF (aG [⟨10,_,_,_,h1⟩,⟨11,_,_,_,h2⟩] [] fun _ K=>?_)|refine aF (aF (aG [⟨10,_,_,_,h1⟩,⟨11,_,_,_,h2⟩] [] fun _ K=>?_)));simp(disch:=omega) only[kd,bz,aa,hq,hx,hr,e1,e2,af];apply K
    (first|refine aG [⟨2,_,_,_,h3⟩] [] fun _ K=>?_|refine aF (aG [⟨2,_,_,_,h3⟩] [] fun _ K=>?_)|refine aF (aF (aG [⟨2,_,_,_,h3⟩] [] fun _ K=>?_)));simp(disch:=omega) only[kd,bz,aa];apply K
    first|refine aU rfl ?_|refine bQ rfl (fun _=>?_) (fun h=>by simp at h<;>omega)
    (first|refine aG [⟨2,_,_,_,h4⟩,⟨3,_,_,_,h5⟩] [] fun _ K=>?_|refine aF (aG [⟨2,_,_,_,h4⟩,⟨3,_,_,_,h5⟩] [] fun _ K=>?_)|refine aF (aF (aG [⟨2,_,_,_,h4⟩,⟨3,_,_,_,h5⟩] [] fun _ K=>?_)));simp only[kd,bz,aa,af];apply K
    refine gP be (by kernel_rfl) fun _ K=>?_;simp(disch:=omega) only[kd,aa,hq,hy,hr,e3,e4,dr];apply K
    show bo _ _ _ _;refine aL fun _ K=>?_;simp(disch:=omega) only[kd,aa,aO];apply K
    refine⟨g',by omega,aE ⟨by rw[q2];rfl,trivial⟩ ?_⟩;simp[wk,q1]
   obtain⟨g',q1,q2⟩:=K4 hb ht len lmb val (by omega);have hrest:=(Ha (a:=a) (k:=k) hb (by omega)).2;rw[<- hrest]at h2 hge;have lr':=oD (Nat.le_of_lt (Nat.mod_lt (a/2^k) hb));have h3:=C6 (aP (a/2^k%b)) (aP b) (aW _) (aW _) (b7 _) (b7 _) (by omega) (by omega);rw[aN,aN]at h3;have hc:=G0 (a:=a/2^k%b) (b:=b) (by omega)
   (first|refine aD fun _ K=>?_|refine aF (aD fun _ K=>?_)|refine aF (aF (aD fun _ K=>?_)));simp(disch:=omega) only[kd,bz];apply K
   first|refine aU rfl (aM ?_)|refine bQ rfl (fun _=>aM ?_) (fun h=>by simp at h<;>omega)
   refine aF (aK ?_)
   (first|refine aG [⟨10,_,_,_,h1⟩,⟨11,_,_,_,h2⟩] [] fun _ K=>?_|refine aF (aG [⟨10,_,_,_,h1⟩,⟨11,_,_,_,h2⟩] [] fun _ K=>?_)|refine aF (aF (aG [⟨10,_,_,_,h1⟩,⟨11,_,_,_,h2⟩] [] fun _ K=>?_)));simp(disch:=omega) only[kd,bz,aa,hq,hx,hr,e1,e2,af];apply K
   (first|refine aG [⟨2,_,_,_,h3⟩] [] fun _ K=>?_|refine aF (aG [⟨2,_,_,_,h3⟩] [] fun _ K=>?_)|refine aF (aF (aG [⟨2,_,_,_,h3⟩] [] fun _ K=>?_)));simp(disch:=omega) only[kd,bz,aa];apply K
   first|refine aQ rfl (aM ?_)|refine bQ rfl (fun h=>by simp at h<;>omega) (fun _=>aM ?_)
   show bo _ _ _ _;refine aL fun _ K=>?_;simp(disch:=omega) only[kd,aa,aO];apply K
   refine⟨g',by omega,aE ⟨by rw[q2];rfl,trivial⟩ ?_⟩;simp[wk,q1]
end Go.Proofs.YtfgeomlagfomgaaGreatDoor
