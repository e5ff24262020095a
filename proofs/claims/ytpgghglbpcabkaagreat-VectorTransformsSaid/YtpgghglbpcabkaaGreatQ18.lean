/-
  Part 19 of a proof (walks and plain facts).
-/
import Derived.Test.YtpgghglbpcabkaaGreatQ17
set_option linter.all false
set_option maxRecDepth 100000
set_option maxHeartbeats 64000000
namespace Go.Proofs.YtpgghglbpcabkaaGreat
open Go.RowKit
theorem oa (o:List Nat) (k v:Nat):(o++List.replicate (k+1) 0).set o.length v=(o++[v])++List.replicate k 0:=by
 rw[List.set_append_right _ _ (Nat.le_refl _),Nat.sub_self,List.replicate_succ,List.set_cons_zero,List.append_assoc];rfl
theorem pX (o:List Nat) (k:Nat):(o++List.replicate (k+1) 0)[o.length]?=some 0:=by
 rw[List.getElem?_append_right (Nat.le_refl _),Nat.sub_self,List.replicate_succ];rfl
theorem sf (l m:List Nat) (ll:Lmb l) (lm:Lmb m) (cl:nj l) (cm:nj m) (bl:l.length<=1073741824) (bm:m.length<=1073741824):
  CallC Tryz.prog 145 [ca l,ca m] ⟨[],.raw (.int .i64 (gQ (natV l) (natV m)))⟩:=by
 rcases Nat.lt_trichotomy l.length m.length with hlt|heq|hgt
 ·rw[mH (iL ll cm hlt)]
  refine ax Tryz.func145 rfl (by kernel_rfl) ?_;rw[Tryz.ntmps145]
  (refine aa [] fun K hK=>?_;simp(disch:=omega) only[kc,ab,ca,Nat.reduceAdd,List.replicate,ac,Value.oneCell'];apply hK)
  refine ae (aI ?_)
  (refine aa [] fun K hK=>?_;simp(disch:=omega) only[kc,ab,Nat.reduceAdd,aw,au,an,aR,ak,ah,bA];apply hK)
  refine af rfl (fun _=>?_) (fun h=>by simp at h)
  (refine aa [] fun K hK=>?_;simp(disch:=omega) only[kc,ab,ac,Value.oneCell'];apply hK)
  (refine ay ⟨.inr rfl,aO rfl ?_ rfl⟩;simp(disch:=omega) only[bE,Tryz.results145,aP,List.getElem?_cons_succ,List.getElem?_cons_zero])
 ·refine ax Tryz.func145 rfl (by kernel_rfl) ?_;rw[Tryz.ntmps145]
  (refine aa [] fun K hK=>?_;simp(disch:=omega) only[kc,ab,ca,Nat.reduceAdd,List.replicate,ac,Value.oneCell'];apply hK)
  refine ae (aI ?_)
  (refine aa [] fun K hK=>?_;simp(disch:=omega) only[kc,ab,Nat.reduceAdd,aw,au,an,aR,ak,ah,bf];apply hK)
  refine af rfl (fun h=>by simp at h<;>omega) (fun _=>?_)
  (refine aa [] fun K hK=>?_;simp(disch:=omega) only[kc,ab,Nat.reduceAdd,aw,au,an,aR,ak,ah,bf];apply hK)
  refine af rfl (fun h=>by simp at h<;>omega) (fun _=>aq ?_)
  show bT _ _ _ _
  (refine ae (aa [] fun K hK=>?_);simp(disch:=omega) only[kc,ab,Nat.reduceAdd,aw,au,an,aR,ak,ac,Value.oneCell',ah,bC];apply hK)
  refine bD (G:={k:Nat//k<=l.length/\l.drop k=m.drop k}) (fun k=>⟨[ca l,ca m,jk,jk,jk,.raw (.int .i64 ((k.1:Int)-1)),jk,jk,jk,jk,jk,jk,jk,jk,jk,jk,jk,jk,jk,jk,jk,jk,jk,jk,jk,jk,jk,jk,jk,jk,jk,jk,jk,jk,jk,jk,jk,jk,jk,jk,jk,jk,jk,jk,jk],Hm []⟩) (fun k=>k.1) ⟨l.length,Nat.le_refl _,by rw[List.drop_length,heq,List.drop_length]⟩ ?_ ?_
  ·refine aj trivial ?_
   simp[b9,bo,bj]
  ·rintro⟨k,hk,hd⟩
   simp only
   by_cases h0:0<k
   ·obtain⟨a,ha⟩:=getElem?_of_lt (l:=l) (k:=k-1) (by omega)
    obtain⟨b,hb⟩:=getElem?_of_lt (l:=m) (k:=k-1) (by omega)
    have e1:((k:Int)-1).toNat=k-1:=by omega
    have hd':l.drop (k-1+1)=m.drop (k-1+1):=by rw[show k-1+1=k by omega];exact hd
    (refine ae (aa [] fun K hK=>?_);simp(disch:=omega) only[kc,ab,ca,Hm,ak,ac,Value.oneCell',ah,bA];apply hK)
    refine af rfl (fun _=>aq ?_) (fun h=>by simp at h)
    refine ae (aI ?_)
    refine aI ?_
    rcases Nat.lt_trichotomy a b with hab|hab|hab
    ·rw[mH (lf ll ha hb hd' hab)]
     (refine bS bY [] [] (by kernel_rfl) (by simp) fun K hK=>?_;simp(disch:=omega) only[kc,ab,Nat.reduceAdd,ag,au,ao,e1,an,bG,ha,fU,bs,aA,bN,hb,ak,ah,bA];apply hK)
     refine af rfl (fun _=>?_) (fun h=>by simp at h<;>omega)
     (refine aa [] fun K hK=>?_;simp(disch:=omega) only[kc,ab,ac,Value.oneCell'];apply hK)
     (refine ay ⟨.inr rfl,aO rfl ?_ rfl⟩;simp(disch:=omega) only[bE,Tryz.results145,aP,List.getElem?_cons_succ,List.getElem?_cons_zero])
    ·subst hab
     (refine bS bY [] [] (by kernel_rfl) (by simp) fun K hK=>?_;simp(disch:=omega) only[kc,ab,Nat.reduceAdd,ag,au,ao,e1,an,bG,ha,fU,bs,aA,bN,hb,ak,ah,bf];apply hK)
     refine af rfl (fun h=>by simp at h<;>omega) (fun _=>?_)
     (refine bS bY [] [] (by kernel_rfl) (by simp) fun K hK=>?_;simp(disch:=omega) only[kc,ab,Nat.reduceAdd,ag,au,ao,e1,an,bG,ha,fU,bs,aA,bN,hb,ak,ah,bf];apply hK)
     refine af rfl (fun h=>by simp at h<;>omega) (fun _=>aq ?_)
     show bT _ _ _ _
     ((refine aU [] [] (by simp) fun K hK=>?_);simp(disch:=omega) only[kc,ab,Nat.reduceAdd,ak,ac,Value.oneCell',ah,bC];apply hK)
     refine⟨⟨k-1,by omega,uv ha hb hd'⟩,by simp only;omega,aj trivial ?_⟩
     have e2:((k-1:Nat):Int)=(k:Int)-1:=by omega
     simp[b9,bo,bj,e2]
    ·rw[qV (lf lm hb ha hd'.symm hab)]
     (refine bS bY [] [] (by kernel_rfl) (by simp) fun K hK=>?_;simp(disch:=omega) only[kc,ab,Nat.reduceAdd,ag,au,ao,e1,an,bG,ha,fU,bs,aA,bN,hb,ak,ah,bf];apply hK)
     refine af rfl (fun h=>by simp at h<;>omega) (fun _=>?_)
     (refine bS bY [] [] (by kernel_rfl) (by simp) fun K hK=>?_;simp(disch:=omega) only[kc,ab,Nat.reduceAdd,ag,au,ao,e1,an,bG,ha,fU,bs,aA,bN,hb,ak,ah,bA];apply hK)
     refine af rfl (fun _=>?_) (fun h=>by simp at h<;>omega)
     (refine aa [] fun K hK=>?_;simp(disch:=omega) only[kc,ab,ac,Value.oneCell'];apply hK)
     (refine ay ⟨.inr rfl,aO rfl ?_ rfl⟩;simp(disch:=omega) only[bE,Tryz.results145,aP,List.getElem?_cons_succ,List.getElem?_cons_zero])
   ·have hk0:k=0:=by omega
    subst hk0
    have hlm:l=m:=by simpa using hd
    rw[show gQ (natV l) (natV m)=0 by rw[hlm];simp[gQ]]
    (refine ae (aa [] fun K hK=>?_);simp(disch:=omega) only[kc,ab,ca,Hm,ak,ac,Value.oneCell',ah,bf];apply hK)
    refine af rfl (fun h=>by simp at h) (fun _=>bv ?_)
    show bT _ _ _ _
    (refine aa [] fun K hK=>?_;simp(disch:=omega) only[kc,ab,ac,Value.oneCell'];apply hK)
    (refine ay ⟨.inr rfl,aO rfl ?_ rfl⟩;simp(disch:=omega) only[bE,Tryz.results145,aP,List.getElem?_cons_succ,List.getElem?_cons_zero])
 ·rw[qV (iL lm cl hgt)]
  refine ax Tryz.func145 rfl (by kernel_rfl) ?_;rw[Tryz.ntmps145]
  (refine aa [] fun K hK=>?_;simp(disch:=omega) only[kc,ab,ca,Nat.reduceAdd,List.replicate,ac,Value.oneCell'];apply hK)
  refine ae (aI ?_)
  (refine aa [] fun K hK=>?_;simp(disch:=omega) only[kc,ab,Nat.reduceAdd,aw,au,an,aR,ak,ah,bf];apply hK)
  refine af rfl (fun h=>by simp at h<;>omega) (fun _=>?_)
  (refine aa [] fun K hK=>?_;simp(disch:=omega) only[kc,ab,Nat.reduceAdd,aw,au,an,aR,ak,ah,bA];apply hK)
  refine af rfl (fun _=>?_) (fun h=>by simp at h)
  (refine aa [] fun K hK=>?_;simp(disch:=omega) only[kc,ab,ac,Value.oneCell'];apply hK)
  (refine ay ⟨.inr rfl,aO rfl ?_ rfl⟩;simp(disch:=omega) only[bE,Tryz.results145,aP,List.getElem?_cons_succ,List.getElem?_cons_zero])
structure Kz (m n:List Nat) (e:Nat) where
 i:Nat
 o:List Nat
 c:Nat
 hi:i<=e
 hc:c<=1
 ho:o.length=i
 h:o++sumL (m.drop i) (n.drop i) c=sumL m n 0
structure KA (m n:List Nat) where
 j:Nat
 o:List Nat
 c:Nat
 hj:n.length+j<=m.length
 hc:c<=1
 ho:o.length=n.length+j
 h:o++sumL (m.drop (n.length+j)) [] c=sumL m n 0
theorem uz (m n:List Nat) (lm:Lmb m) (ln:Lmb n) (bm:m.length<=536870912) (bn:n.length<=536870912):
  CallC Tryz.prog 121 [ca m,ca n] ⟨[],ca (be (natV m+natV n))⟩:=by
 refine ax Tryz.func121 rfl (by kernel_rfl) ?_;rw[Tryz.ntmps121]
 (refine aa [] fun K hK=>?_;simp(disch:=omega) only[kc,ab,ca,Nat.reduceAdd,List.replicate,ac,Value.oneCell'];apply hK)
 obtain⟨p,q,hpq,hle⟩: ∃p q:List Nat,((p=m/\q=n/\ ¬m.length<n.length)\/(p=n/\q=m/\m.length<n.length))/\q.length<=p.length:=by
  by_cases h:m.length<n.length
  ·exact⟨n,m,.inr ⟨rfl,rfl,h⟩,by omega⟩
  ·exact⟨m,n,.inl ⟨rfl,rfl,h⟩,by omega⟩
 refine ae (iV (S:=⟨[ca p,ca q,jk,jk,jk,jk,jk,jk,jk,jk,jk,jk,jk,jk,jk,jk,jk,jk,jk,jk,jk,jk,jk,jk,jk,jk,jk,jk,jk,jk,jk,jk,jk,jk,jk,jk,jk,jk,jk,jk,jk,jk,jk,jk,jk,jk,jk,jk,jk,jk,jk,jk,jk,jk,jk,jk,jk,jk,jk,jk,jk,jk,jk,jk,jk,jk,jk,jk,jk,jk,jk,jk,jk,jk,jk,jk,jk,jk,jk,jk,jk,jk,jk],Hm []⟩) ?_ ?_)
 ·rcases hpq with⟨rfl,rfl,h⟩|⟨rfl,rfl,h⟩
  ·(refine aa [] fun K hK=>?_;simp(disch:=omega) only[kc,ab,Nat.reduceAdd,aw,au,an,aR,ak,ah,bf];apply hK)
   refine af rfl (fun h=>by simp at h<;>omega) (fun _=>aq (aj trivial ?_))
   simp[b9,bo,bj]
  ·(refine aa [] fun K hK=>?_;simp(disch:=omega) only[kc,ab,Nat.reduceAdd,aw,au,an,aR,ak,ah,bA];apply hK)
   refine af rfl (fun _=>?_) (fun h=>by simp at h<;>omega)
   ((refine aU [] [] (by simp) fun K hK=>?_);simp(disch:=omega) only[kc,ab,Nat.reduceAdd];apply hK)
   refine aj trivial ?_
   simp[b9,bo,bj]
 ·have hsum:natV m+natV n=natV p+natV q:=by rcases hpq with⟨rfl,rfl,_⟩|⟨rfl,rfl,_⟩<;>omega
  have lp:Lmb p:=by rcases hpq with⟨rfl,rfl,_⟩|⟨rfl,rfl,_⟩<;>assumption
  have lq:Lmb q:=by rcases hpq with⟨rfl,rfl,_⟩|⟨rfl,rfl,_⟩<;>assumption
  have bp:p.length<=536870912:=by rcases hpq with⟨rfl,rfl,_⟩|⟨rfl,rfl,_⟩<;>assumption
  rw[hsum]
  clear hsum hpq lm ln bm bn
  have ep:(p.length:Int)+1=((p.length+1:Nat):Int):=by omega
  (refine aa [] fun K hK=>?_;simp(disch:=omega) only[kc,ab,Nat.reduceAdd,ca,Hm,aw,au,an,aR,ak,ac,Value.oneCell',ah,ep,bC,bZ,aN,aC,dn,bs,eA,Int.natCast_nonneg,and_true,kZ,bH];apply hK)
  (refine aa [] fun K hK=>?_;simp(disch:=omega) only[kc,ab,ac,Value.oneCell'];apply hK)
  (refine ae (aa [] fun K hK=>?_);simp(disch:=omega) only[kc,ab,Nat.reduceAdd,aw,au,an,aR,ac,Value.oneCell'];apply hK)
  refine bD (G:=Kz p q q.length) (fun g=>⟨[ca p,ca q,jk,jk,jk,.one (.sl 19 0 0 (p.length+1)),.raw (.int .u64 (g.c:Int)),jk,jk,jk,jk,jk,jk,jk,jk,jk,jk,jk,jk,jk,jk,.raw (.int .i64 (q.length:Int)),.raw (.int .i64 (g.i:Int)),jk,jk,jk,jk,jk,jk,jk,jk,jk,jk,jk,jk,jk,jk,jk,jk,jk,jk,jk,jk,jk,jk,jk,jk,jk,jk,jk,jk,jk,jk,jk,jk,jk,jk,jk,jk,jk,jk,jk,jk,jk,jk,jk,jk,jk,jk,jk,jk,jk,jk,jk,jk,jk,jk,jk,jk,jk,jk,jk,jk],Hm [(19,[⟨118,1,lc fU (g.o++List.replicate (p.length+1-g.i) 0)⟩])]⟩) (fun g=>q.length-g.i) ⟨0,[],0,by omega,by omega,rfl,rfl⟩ ?_ ?_
  ·refine aj ⟨?_,trivial⟩ ?_
   ·simp[aJ,Hm]
   ·simp[b9,bo,bj]
  ·rintro⟨i,o,c,hi,hc,ho,h⟩
   simp only
   by_cases hm:i<q.length
   ·obtain⟨a,ha⟩:=getElem?_of_lt (show i<p.length by omega)
    obtain⟨b,hb⟩:=getElem?_of_lt hm
    have ha':=dp lp ha
    have hb':=dp lq hb
    have e1:IntKind.u32.wrap ((c:Int)+((a:Int)+(b:Int)))=(((c+a+b)%4294967296:Nat):Int):=by rw[<- rp];congr 1<;>omega
    have e2:Int.fdiv ((c:Int)+((a:Int)+(b:Int))) (2^(min 32 IntKind.u64.bits))=(((c+a+b)/4294967296:Nat):Int):=by rw[<- Dc];congr 1<;>omega
    have hz:p.length+1-i=(p.length-i)+1:=by omega
    have hg:=pX o (p.length-i)
    have hs:=oa o (p.length-i) ((c+a+b)%4294967296)
    rw[ho]at hg hs
    rw[hz]
    (refine aa [] fun K hK=>?_;simp(disch:=omega) only[kc,ab,ca,Hm,ak,ah,bA];apply hK)
    refine ae (af rfl (fun _=>aq ?_) (fun h=>by simp at h<;>omega))
    refine ae (aI ?_)
    (refine aa [] fun K hK=>?_;simp(disch:=omega) only[kc,ab];apply hK)
    (refine bS bY [] [] (by kernel_rfl) (by simp) fun K hK=>?_;simp(disch:=omega) only[kc,ab,Nat.reduceAdd,ag,au,ao,an,bG,ha,fU,bs,aA,bN,bF,ak,Tryz.underlying118,cn,dS,hb,ah];apply hK)
    (refine aa [] fun K hK=>?_;simp(disch:=omega) only[kc,ab,Nat.reduceAdd,bF,ak,Tryz.underlying88,cJ,e1,ag,au,ao,an,bs,bH,az,df,bJ,cb,fU,hg,cellsOf,Nat.le_refl,isPure,putCells,eh,hs,aS,aT];apply hK)
    ((refine aU [] [] (by simp) fun K hK=>?_);simp(disch:=omega) only[kc,ab,Nat.reduceAdd,ak,ac,Value.oneCell',ah,Int.reduceLE,Int.reduceToNat,e2];apply hK)
    show bT _ _ _ _
    ((refine aU [] [] (by simp) fun K hK=>?_);simp(disch:=omega) only[kc,ab,ak,ac,Value.oneCell',ah,bC];apply hK)
    refine⟨⟨i+1,o++[(c+a+b)%4294967296],(c+a+b)/4294967296,by omega,by omega,by simp[ho],?_⟩,by simp only;omega,aj ⟨?_,trivial⟩ ?_⟩
    ·rw[<- h,eX ha,eX hb,sumL,List.append_assoc];rfl
    ·show _=[(⟨_,_,lc fU ((o++[(c+a+b)%4294967296])++List.replicate (p.length+1-(i+1)) 0)⟩:OObj)]
     rw[show p.length+1-(i+1)=p.length-i by omega];rfl
    ·simp[b9,bo,bj]
   ·have hin:i=q.length:=by omega
    subst hin
    rw[eu (Nat.le_refl _)]at h
    (refine aa [] fun K hK=>?_;simp(disch:=omega) only[kc,ab,ca,Hm,ak,ah,bf];apply hK)
    refine ae (af rfl (fun h=>by simp at h<;>omega) (fun _=>bv ?_))
    show bT _ _ _ _
    have es:(p.length:Int)-(q.length:Int)=((p.length-q.length:Nat):Int):=by omega
    (refine ae (aa [] fun K hK=>?_);simp(disch:=omega) only[kc,ab,Nat.reduceAdd,aw,au,an,aR,ak,ah,es,bC,ac,Value.oneCell'];apply hK)
    refine bD (G:=KA p q) (fun g=>⟨[ca p,ca q,jk,jk,jk,.one (.sl 19 0 0 (p.length+1)),.raw (.int .u64 (g.c:Int)),jk,jk,jk,jk,jk,jk,jk,jk,jk,jk,jk,jk,jk,jk,jk,jk,jk,jk,jk,jk,jk,jk,jk,jk,jk,jk,jk,jk,jk,jk,jk,jk,jk,jk,jk,jk,jk,jk,jk,jk,jk,jk,jk,.raw (.int .i64 ((p.length-q.length:Nat):Int)),.raw (.int .i64 (g.j:Int)),jk,jk,jk,jk,jk,jk,jk,jk,jk,jk,jk,jk,jk,jk,jk,jk,jk,jk,jk,jk,jk,jk,jk,jk,jk,jk,jk,jk,jk,jk,jk],Hm [(19,[⟨118,1,lc fU (g.o++List.replicate (p.length+1-(q.length+g.j)) 0)⟩])]⟩) (fun g=>p.length-q.length-g.j) ⟨0,o,c,by omega,hc,ho,h⟩ ?_ ?_
    ·refine aj ⟨rfl,trivial⟩ ?_
     simp[b9,bo,bj]
    ·clear h ho hc c o
     rintro⟨j,o,c,hj,hc,ho,h⟩
     simp only
     have eNj:(q.length:Int)+(j:Int)=((q.length+j:Nat):Int):=by omega
     by_cases hm2:j<p.length-q.length
     ·obtain⟨a,ha⟩:=getElem?_of_lt (show q.length+j<p.length by omega)
      have ha':=dp lp ha
      have e1:IntKind.u32.wrap ((c:Int)+(a:Int))=(((c+a)%4294967296:Nat):Int):=by rw[<- rp];congr 1<;>omega
      have e2:Int.fdiv ((c:Int)+(a:Int)) (2^(min 32 IntKind.u64.bits))=(((c+a)/4294967296:Nat):Int):=by rw[<- Dc];congr 1<;>omega
      have hz:p.length+1-(q.length+j)=(p.length-(q.length+j))+1:=by omega
      have hg:=pX o (p.length-(q.length+j))
      have hs:=oa o (p.length-(q.length+j)) ((c+a)%4294967296)
      rw[ho]at hg hs
      rw[hz]
      (refine aa [] fun K hK=>?_;simp(disch:=omega) only[kc,ab,ca,Hm,ak,ah,bA];apply hK)
      refine ae (af rfl (fun _=>aq ?_) (fun h=>by simp at h<;>omega))
      refine ae (aI ?_)
      (refine aa [] fun K hK=>?_;simp(disch:=omega) only[kc,ab];apply hK)
      (refine aa [] fun K hK=>?_;simp(disch:=omega) only[kc,ab,Nat.reduceAdd,aw,au,an,aR,ak,ah,eNj,bC,ag,ao,bG,ha,fU,bs,aA,bN,bF,Tryz.underlying118,cn,dS];apply hK)
      (refine aa [] fun K hK=>?_;simp(disch:=omega) only[kc,ab,Nat.reduceAdd,aw,au,an,aR,ak,ah,eNj,bC,bF,Tryz.underlying88,cJ,e1,ag,ao,bs,bH,az,df,bJ,cb,fU,hg,cellsOf,Nat.le_refl,isPure,putCells,eh,hs,aS,aT];apply hK)
      ((refine aU [] [] (by simp) fun K hK=>?_);simp(disch:=omega) only[kc,ab,Nat.reduceAdd,ak,ac,Value.oneCell',ah,Int.reduceLE,Int.reduceToNat,e2];apply hK)
      show bT _ _ _ _
      ((refine aU [] [] (by simp) fun K hK=>?_);simp(disch:=omega) only[kc,ab,ak,ac,Value.oneCell',ah,bC];apply hK)
      refine⟨⟨j+1,o++[(c+a)%4294967296],(c+a)/4294967296,by omega,by omega,by simp[ho];omega,?_⟩,by simp only;omega,aj ⟨?_,trivial⟩ ?_⟩
      ·rw[<- h,eX ha,sumL,List.append_assoc];rfl
      ·show _=[(⟨_,_,lc fU ((o++[(c+a)%4294967296])++List.replicate (p.length+1-(q.length+(j+1))) 0)⟩:OObj)]
       rw[show p.length+1-(q.length+(j+1))=p.length-(q.length+j) by omega];rfl
      ·simp[b9,bo,bj]
     ·have hje:q.length+j=p.length:=by omega
      rw[hje]at h ho
      rw[eu (Nat.le_refl _),sumL]at h
      have e1:IntKind.u32.wrap (c:Int)=(c:Int):=by rw[rp];omega
      have hz:p.length+1-(q.length+j)=0+1:=by omega
      have hg:=pX o 0
      have hs:=oa o 0 c
      rw[ho]at hg hs
      rw[List.replicate_zero,List.append_nil,h]at hs
      have hsl:(sumL p q 0).length=p.length+1:=by rw[mn];omega
      have hlm:=l7 p q 0 lp lq (by omega)
      have ht:=fg (sumL p q 0) (by omega)
      rw[fl hlm,kq,Nat.add_zero]at ht
      rw[hz]
      generalize sumL p q 0=S at*
      (refine aa [] fun K hK=>?_;simp(disch:=omega) only[kc,ab,ca,Hm,ak,ah,bf];apply hK)
      refine ae (af rfl (fun h=>by simp at h<;>omega) (fun _=>bv ?_))
      show bT _ _ _ _
      (refine aa [] fun K hK=>?_;simp(disch:=omega) only[kc,ab,Nat.reduceAdd,aw,au,an,aR,bF,ak,Tryz.underlying88,cJ,e1,ag,ao,bs,bH,az,df,bJ,cb,fU,hg,cellsOf,Nat.le_refl,isPure,putCells,eh,hs,aS,aT];apply hK)
      refine bT.weak ((cQ 19 (dH rfl)).trans (aj (tm:=[jk,jk,jk,jk,jk,ca S,jk,jk,jk,jk,jk,jk,jk,jk,jk,jk,jk,jk,jk,jk,jk,jk,jk,jk,jk,jk,jk,jk,jk,jk,jk,jk,jk,jk,jk,jk,jk,jk,jk,jk,jk,jk,jk,jk,jk,jk,jk,jk,jk,jk,jk,jk,jk,jk,jk,jk,jk,jk,jk,jk,jk,jk,jk,jk,jk,jk,jk,jk,jk,jk,jk,jk,jk,jk,jk,jk,jk,jk,jk,jk,jk,jk,jk]) (l:=[]) trivial (by simp[b9,bo,bj,gH,fu,aJ,Hm,eB,d8,List.take_of_length_le,hsl]))) ?_
      (refine aa [⟨1,_,_,_,ht⟩] fun K hK=>?_;simp(disch:=omega) only[kc,ca,ar.a,ab,Nat.reduceAdd,Hm,ai,aN,aC,List.find?_cons,aD,aX,CallRes.plain,aF,aH,ap,noRefTV,am,aG,aE];apply hK)
      (refine ay ⟨.inr rfl,aO rfl ?_ rfl⟩;simp(disch:=omega) only[bE,Tryz.results121,aP,List.getElem?_cons_succ,List.getElem?_cons_zero,ca])
theorem pI (m n:List Nat) (lm:Lmb m) (ln:Lmb n) (hl:n.length<=m.length) (hle:natV n<=natV m) (bm:m.length<=536870912):
  CallC Tryz.prog 122 [ca m,ca n] ⟨[],ca (be (natV m-natV n))⟩:=by
 refine ax Tryz.func122 rfl (by kernel_rfl) ?_;rw[Tryz.ntmps122]
 (refine aa [] fun K hK=>?_;simp(disch:=omega) only[kc,ab,ca,Nat.reduceAdd,List.replicate,ac,Value.oneCell'];apply hK)
 (refine aa [] fun K hK=>?_;simp(disch:=omega) only[kc,ab,Nat.reduceAdd,aw,au,an,aR,bZ,aN,aC,dn,bs,eA,Int.natCast_nonneg,Value.oneCell',and_true,kZ,bH];apply hK)
 (refine aa [] fun K hK=>?_;simp(disch:=omega) only[kc,ab,ac,Value.oneCell'];apply hK)
 (refine ae (aa [] fun K hK=>?_);simp(disch:=omega) only[kc,ab,Nat.reduceAdd,aw,au,an,aR,ac,Value.oneCell'];apply hK)
 refine bD (G:=JW m n) (fun g=>⟨[ca m,ca n,jk,jk,jk,.one (.sl 11 0 0 m.length),.raw (.int .u64 (g.c:Int)),jk,jk,jk,jk,jk,jk,.raw (.int .i64 (m.length:Int)),.raw (.int .i64 (g.i:Int)),jk,jk,jk,jk,jk,jk,jk,jk,jk,jk,jk,jk,jk,jk,jk,jk,jk,jk,jk,jk,jk,jk,jk,jk,jk,jk,jk,jk,jk,jk],Hm [(11,[⟨118,1,lc fU (g.o++List.replicate (m.length-g.i) 0)⟩])]⟩) (fun g=>m.length-g.i) ⟨0,[],0,by omega,by omega,rfl,rfl⟩ ?_ ?_
 ·refine aj ⟨?_,trivial⟩ ?_
  ·simp[aJ,Hm]
  ·simp[b9,bo,bj]
 ·rintro⟨i,o,c,hi,hc,ho,h⟩
  simp only
  by_cases hm:i<m.length
  ·obtain⟨a,ha⟩:=getElem?_of_lt hm
   have ha':=dp lm ha
   have hz:m.length-i=(m.length-i-1)+1:=by omega
   have hg:=pX o (m.length-i-1)
   rw[ho]at hg
   rw[hz]
   (refine aa [] fun K hK=>?_;simp(disch:=omega) only[kc,ab,ca,Hm,ak,ah,bA];apply hK)
   refine ae (af rfl (fun _=>aq ?_) (fun h=>by simp at h<;>omega))
   refine ae (aI ?_)
   (refine aa [] fun K hK=>?_;simp(disch:=omega) only[kc,ab];apply hK)
   (refine aa [] fun K hK=>?_;simp(disch:=omega) only[kc,ab,Nat.reduceAdd,ag,au,ao,an,bG,ha,fU,bs,aA,bN,bF,ak,Tryz.underlying118,cn,dS,ah];apply hK)
   by_cases hn:i<n.length
   ·obtain⟨b,hb⟩:=getElem?_of_lt hn
    have hb':=dp ln hb
    have e1:IntKind.u32.wrap (IntKind.u64.wrap (IntKind.u64.wrap ((a:Int)-(c:Int))-(b:Int)))=(((a+8589934592-(c+b))%4294967296:Nat):Int):=by rw[IntKind.wrap_u32,IntKind.wrap_u64,IntKind.wrap_u64];omega
    have e2:Int.fdiv (IntKind.u64.wrap (IntKind.u64.wrap ((a:Int)-(c:Int))-(b:Int))) (2^(min 63 IntKind.u64.bits))=(((if a<c+b then 1 else 0):Nat):Int):=by
     rw[IntKind.wrap_u64,IntKind.wrap_u64]
     show Int.fdiv _ 9223372036854775808=_
     rw[Int.fdiv_eq_ediv_of_nonneg _ (by omega)]
     split<;>omega
    have hs:=oa o (m.length-i-1) ((a+8589934592-(c+b))%4294967296)
    rw[ho]at hs
    (refine ae (aa [] fun K hK=>?_);simp(disch:=omega) only[kc,ab,Nat.reduceAdd,aw,au,an,aR,ak,ah,bA];apply hK)
    refine af rfl (fun _=>?_) (fun h=>by simp at h<;>omega)
    ((refine aU [] [] (by simp) fun K hK=>?_);simp(disch:=omega) only[kc,ab,Nat.reduceAdd,ag,au,ao,an,bG,hb,fU,bs,aA,bN,bF,ak,Tryz.underlying118,cn,dS,ah];apply hK)
    show bT _ _ _ _
    (refine aa [] fun K hK=>?_;simp(disch:=omega) only[kc,ab,Nat.reduceAdd,bF,ak,Tryz.underlying88,cJ,e1,ag,au,ao,an,bs,bH,az,df,bJ,cb,fU,hg,cellsOf,Nat.le_refl,isPure,putCells,eh,hs,aS,aT];apply hK)
    ((refine aU [] [] (by simp) fun K hK=>?_);simp(disch:=omega) only[kc,ab,Nat.reduceAdd,ak,ac,Value.oneCell',ah,Int.reduceLE,Int.reduceToNat,e2];apply hK)
    show bT _ _ _ _
    ((refine aU [] [] (by simp) fun K hK=>?_);simp(disch:=omega) only[kc,ab,ak,ac,Value.oneCell',ah,bC];apply hK)
    refine⟨⟨i+1,o++[(a+8589934592-(c+b))%4294967296],if a<c+b then 1 else 0,by omega,by split<;>omega,by simp[ho],?_⟩,by simp only;omega,aj ⟨?_,trivial⟩ ?_⟩
    ·rw[<- h,eX ha,eX hb,diffL,List.append_assoc];rfl
    ·show _=[(⟨_,_,lc fU ((o++[(a+8589934592-(c+b))%4294967296])++List.replicate (m.length-(i+1)) 0)⟩:OObj)]
     rw[show m.length-(i+1)=m.length-i-1 by omega];rfl
    ·simp[b9,bo,bj]
   ·have e1:IntKind.u32.wrap (IntKind.u64.wrap ((a:Int)-(c:Int)))=(((a+8589934592-c)%4294967296:Nat):Int):=by rw[IntKind.wrap_u32,IntKind.wrap_u64];omega
    have e2:Int.fdiv (IntKind.u64.wrap ((a:Int)-(c:Int))) (2^(min 63 IntKind.u64.bits))=(((if a<c then 1 else 0):Nat):Int):=by
     rw[IntKind.wrap_u64]
     show Int.fdiv _ 9223372036854775808=_
     rw[Int.fdiv_eq_ediv_of_nonneg _ (by omega)]
     split<;>omega
    have hs:=oa o (m.length-i-1) ((a+8589934592-c)%4294967296)
    rw[ho]at hs
    (refine ae (aa [] fun K hK=>?_);simp(disch:=omega) only[kc,ab,Nat.reduceAdd,aw,au,an,aR,ak,ah,bf];apply hK)
    refine af rfl (fun h=>by simp at h<;>omega) (fun _=>aq ?_)
    show bT _ _ _ _
    (refine aa [] fun K hK=>?_;simp(disch:=omega) only[kc,ab,Nat.reduceAdd,bF,ak,Tryz.underlying88,cJ,e1,ag,au,ao,an,bs,bH,az,df,bJ,cb,fU,hg,cellsOf,Nat.le_refl,isPure,putCells,eh,hs,aS,aT];apply hK)
    ((refine aU [] [] (by simp) fun K hK=>?_);simp(disch:=omega) only[kc,ab,Nat.reduceAdd,ak,ac,Value.oneCell',ah,Int.reduceLE,Int.reduceToNat,e2];apply hK)
    show bT _ _ _ _
    ((refine aU [] [] (by simp) fun K hK=>?_);simp(disch:=omega) only[kc,ab,ak,ac,Value.oneCell',ah,bC];apply hK)
    refine⟨⟨i+1,o++[(a+8589934592-c)%4294967296],if a<c then 1 else 0,by omega,by split<;>omega,by simp[ho],?_⟩,by simp only;omega,aj ⟨?_,trivial⟩ ?_⟩
    ·rw[<- h,eX ha,eu (by omega:n.length<=i),eu (by omega:n.length<=i+1),diffL,List.append_assoc];rfl
    ·show _=[(⟨_,_,lc fU ((o++[(a+8589934592-c)%4294967296])++List.replicate (m.length-(i+1)) 0)⟩:OObj)]
     rw[show m.length-(i+1)=m.length-i-1 by omega];rfl
    ·simp[b9,bo,bj]
  ·have hie:i=m.length:=by omega
   subst hie
   rw[eu (Nat.le_refl _),diffL,List.append_nil]at h
   rw[Nat.sub_self,List.replicate_zero,List.append_nil,h]
   have hsl:(diffL m n 0).length=m.length:=jd m n 0
   have hlm:=jf m n 0
   have hv:=iw m n 0 lm ln (by omega) hl (by omega)
   have ht:=fg (diffL m n 0) (by omega)
   rw[fl hlm,show natV (diffL m n 0)=natV m-natV n by omega]at ht
   generalize diffL m n 0=S at*
   (refine aa [] fun K hK=>?_;simp(disch:=omega) only[kc,ab,ca,Hm,ak,ah,bf];apply hK)
   refine ae (af rfl (fun h=>by simp at h<;>omega) (fun _=>bv ?_))
   show bT _ _ _ _
   refine bT.weak ((cQ 11 (dH rfl)).trans (aj (tm:=[jk,jk,jk,jk,jk,ca S,jk,jk,jk,jk,jk,jk,jk,jk,jk,jk,jk,jk,jk,jk,jk,jk,jk,jk,jk,jk,jk,jk,jk,jk,jk,jk,jk,jk,jk,jk,jk,jk,jk,jk,jk,jk,jk,jk,jk]) (l:=[]) trivial (by simp[b9,bo,bj,gH,fu,aJ,Hm,eB,d8,List.take_of_length_le,hsl]))) ?_
   (refine aa [⟨1,_,_,_,ht⟩] fun K hK=>?_;simp(disch:=omega) only[kc,ca,ar.a,ab,Nat.reduceAdd,Hm,ai,aN,aC,List.find?_cons,aD,aX,CallRes.plain,aF,aH,ap,noRefTV,am,aG,aE];apply hK)
   (refine ay ⟨.inr rfl,aO rfl ?_ rfl⟩;simp(disch:=omega) only[bE,Tryz.results122,aP,List.getElem?_cons_succ,List.getElem?_cons_zero,ca])
theorem CN {A B:List Nat} (g:BO A B) (h:A[g.i]?=some 0): ∃g':BO A B,g'.i=g.i+1/\g'.O=g.O:=by
 refine⟨⟨g.i+1,g.O,(List.getElem?_eq_some_iff.1 h).1,g.len,g.lmb,?_,fun k h1 h2=>g.zero k (by omega) h2⟩,rfl,rfl⟩
 rw[co h,g.val];simp
theorem CE (A B:List Nat) (hlA:Lmb A) (hlB:Lmb B) (la:A.length<=536870912) (lb:B.length<=536870912):CallC Tryz.prog 119 [ca A,ca B] ⟨[],ca (be (natV A*natV B))⟩:=by
 by_cases hsm:A.length<=1/\B.length<=1
 ·have hsm1:=hsm.1
  have hsm2:=hsm.2
  have w1:=oO A hlA (by omega)
  have w2:=oO B hlB (by omega)
  have b1:natV A<4294967296:=by
   have:=gp hlA
   exact Nat.lt_of_lt_of_le this (by have:=Nat.pow_le_pow_right (n:=4294967296) (by omega) hsm1;simpa using this)
  have b2:natV B<4294967296:=by
   have:=gp hlB
   exact Nat.lt_of_lt_of_le this (by have:=Nat.pow_le_pow_right (n:=4294967296) (by omega) hsm2;simpa using this)
  have hb:=mO b1 b2
  have w3:=iH (natV A*natV B) (by omega)
  have e2:(natV A:Int)*(natV B:Int)=((natV A*natV B:Nat):Int):=by simp
  generalize natV A*natV B=p at*
  refine ax Tryz.func119 rfl (by kernel_rfl) ?_;rw[Tryz.ntmps119]
  (refine aa [] fun K hK=>?_;simp(disch:=omega) only[kc,ab,ca,Nat.reduceAdd,List.replicate,ac,Value.oneCell'];apply hK)
  (refine ae (aa [] fun K hK=>?_);simp(disch:=omega) only[kc,ab,Nat.reduceAdd,aw,au,an,aR,ak,ac,Value.oneCell',ah,bA,aB,bH,aQ];apply hK)
  refine af rfl (fun _=>?_) (fun h=>by simp at h<;>omega)
  (refine aa [⟨1,_,_,_,w1⟩,⟨3,_,_,_,w2⟩,⟨5,_,_,_,w3⟩] fun K hK=>?_;simp(disch:=omega) only[kc,ca,ar.a,ab,Nat.reduceAdd,ai,aN,aC,List.find?_cons,aD,aX,CallRes.plain,aF,aH,ap,noRefTV,am,aG,aE,Nat.reduceBEq,ak,ah,e2,dS];apply hK)
  (refine ay ⟨.inr rfl,aO rfl ?_ rfl⟩;simp(disch:=omega) only[bE,Tryz.results119,aP,List.getElem?_cons_succ,List.getElem?_cons_zero,ca])
 ·have e0:((A.length:Int)+(B.length:Int)).toNat=A.length+B.length:=by omega
  refine ax Tryz.func119 rfl (by kernel_rfl) ?_;rw[Tryz.ntmps119]
  (refine aa [] fun K hK=>?_;simp(disch:=omega) only[kc,ab,ca,Nat.reduceAdd,List.replicate,ac,Value.oneCell'];apply hK)
  refine ae (iV (S:=⟨[ca A,ca B,jk,jk,jk,jk,jk,jk,jk,jk,jk,jk,jk,jk,jk,jk,jk,jk,jk,jk,jk,jk,jk,jk,jk,jk,jk,jk,jk,jk,jk,jk,jk,jk,jk,jk,jk,jk,jk,jk,jk,jk,jk,jk,jk,jk,jk,jk,jk,jk,jk,jk,jk,jk,jk,jk,jk,jk,jk,jk,jk,jk,jk,jk,jk,jk,jk,jk,jk,jk,jk,jk,jk,jk,jk,jk,jk,jk,jk,jk,jk,jk,jk,jk,jk,jk],Hm []⟩) ?_ ?_)
  ·by_cases h1:A.length<=1
   ·(refine aa [] fun K hK=>?_;simp(disch:=omega) only[kc,ab,Nat.reduceAdd,aw,au,an,aR,ak,ac,Value.oneCell',ah,bA,aB,bH,bf,aQ];apply hK)
    refine af rfl (fun h=>by simp at h<;>omega) (fun _=>aq (aj trivial ?_))
    simp[b9,bo,bj]
   ·(refine aa [] fun K hK=>?_;simp(disch:=omega) only[kc,ab,Nat.reduceAdd,aw,au,an,aR,ak,ac,Value.oneCell',ah,bf,aB,Option.map_none,aQ];apply hK)
    refine af rfl (fun h=>by simp at h<;>omega) (fun _=>aq (aj trivial ?_))
    simp[b9,bo,bj]
  ·(refine aa [] fun K hK=>?_;simp(disch:=omega) only[kc,ab,Nat.reduceAdd,ca,Hm,aw,au,an,aR,ak,ah,bC,bZ,aN,aC,dn,bs,eA,Value.oneCell',and_true,e0,kZ,bH];apply hK)
   (refine ae (aa [] fun K hK=>?_);simp(disch:=omega) only[kc,ab,Nat.reduceAdd,aw,au,an,aR,ac,Value.oneCell'];apply hK)
   refine bD (G:=BO A B) (fun g=>⟨[ca A,ca B,jk,jk,jk,.one (.sl 31 0 0 (A.length+B.length)),jk,jk,jk,jk,jk,jk,jk,jk,jk,jk,jk,jk,jk,jk,jk,jk,jk,jk,jk,jk,jk,jk,jk,jk,jk,jk,ca A,.raw (.int .i64 (A.length:Int)),.raw (.int .i64 (g.i:Int)),jk,jk,jk,jk,jk,jk,jk,jk,jk,jk,jk,jk,jk,jk,jk,jk,jk,jk,jk,jk,jk,jk,jk,jk,jk,jk,jk,jk,jk,jk,jk,jk,jk,jk,jk,jk,jk,jk,jk,jk,jk,jk,jk,jk,jk,jk,jk,jk,jk,jk,jk],Hm [(31,[⟨118,1,lc fU g.O⟩])]⟩) (fun g=>A.length-g.i) ⟨0,List.replicate (A.length+B.length) 0,by omega,by simp,fun x hx=>by simp at hx;omega,by simp[sp,natV],fun k h1 h2=>by rw[List.getElem?_replicate,if_pos h2]⟩ ?_ ?_
   ·refine aj ⟨rfl,trivial⟩ ?_
    simp[b9,bo,bj]
   ·rintro⟨i,O,hi,len,lmb,val,zero⟩
    simp only
    by_cases hm:i<A.length
    ·obtain⟨x,hx⟩:=getElem?_of_lt hm
     have hx':=dp hlA hx
     (refine aa [] fun K hK=>?_;simp(disch:=omega) only[kc,ab,ca,Hm,ak,ah,bA];apply hK)
     refine ae (af rfl (fun _=>aq ?_) (fun h=>by simp at h<;>omega))
     refine ae (aI ?_)
     (refine aa [] fun K hK=>?_;simp(disch:=omega) only[kc,ab,Nat.reduceAdd,ag,au,ao,an,bG,hx,fU,bs,aA,bN];apply hK)
     by_cases hx0:x=0
     ·subst hx0
      obtain⟨g',q1,q2⟩:=CN (⟨i,O,hi,len,lmb,val,zero⟩:BO A B) hx
      simp only at q1 q2
      (refine ae (aa [] fun K hK=>?_);simp(disch:=omega) only[kc,ab,ak,ac,Value.oneCell',ah,bA];apply hK)
      refine af rfl (fun _=>bv ?_) (fun h=>by simp at h)
      show bT _ _ _ _
      ((refine aU [] [] (by simp) fun K hK=>?_);simp(disch:=omega) only[kc,ab,ak,ac,Value.oneCell',ah,bC];apply hK)
      refine⟨g',by omega,aj ⟨by rw[q2];rfl,trivial⟩ ?_⟩
      simp[b9,bo,bj,q1]
     ·have es:(i:Int)+(B.length:Int)+1=((i+B.length+1:Nat):Int):=by omega
      have el:i+B.length+1-i=B.length+1:=by omega
      (refine ae (aa [] fun K hK=>?_);simp(disch:=omega) only[kc,ab,ak,ac,Value.oneCell',ah,bf];apply hK)
      refine af rfl (fun h=>by simp at h<;>omega) (fun _=>aq ?_)
      show bT _ _ _ _
      (refine aa [] fun K hK=>?_;simp(disch:=omega) only[kc,ab,Nat.reduceAdd,aw,au,an,aR,ak,ah,bC,ac,Value.oneCell',es,jh,gC,ao,bs,el,bH];apply hK)
      (refine aa [] fun K hK=>?_;simp(disch:=omega) only[kc,ab,ac,Value.oneCell'];apply hK)
      (refine ae (aa [] fun K hK=>?_);simp(disch:=omega) only[kc,ab,Nat.reduceAdd,aw,au,an,aR,ac,Value.oneCell'];apply hK)
      refine bD (G:=Dw A B i x) (fun g=>⟨[ca A,ca B,jk,jk,jk,.one (.sl 31 0 0 (A.length+B.length)),jk,.raw (.int .u32 (x:Int)),.one (.sl 31 0 i (B.length+1)),.raw (.int .u64 (g.c:Int)),jk,jk,jk,jk,jk,jk,jk,jk,jk,jk,jk,jk,jk,jk,jk,jk,jk,jk,jk,jk,jk,jk,ca A,.raw (.int .i64 (A.length:Int)),.raw (.int .i64 (i:Int)),jk,jk,jk,jk,jk,jk,jk,jk,jk,jk,jk,jk,jk,jk,ca B,.raw (.int .i64 (B.length:Int)),.raw (.int .i64 (g.j:Int)),jk,jk,jk,jk,jk,jk,jk,jk,jk,jk,jk,jk,jk,jk,jk,jk,jk,jk,jk,jk,jk,jk,jk,jk,jk,jk,jk,jk,jk,jk,jk,jk,jk,jk],Hm [(31,[⟨118,1,lc fU g.O⟩])]⟩) (fun g=>B.length-g.j) ⟨0,O,0,by omega,len,lmb,by omega,by simpa[natV] using val,zero⟩ ?_ ?_
      ·refine aj ⟨rfl,trivial⟩ ?_
       simp[b9,bo,bj]
      ·intro g
       by_cases hn:g.j<B.length
       ·obtain⟨y,hy⟩:=getElem?_of_lt hn
        have hy':=dp hlB hy
        have hlen:=g.len
        obtain⟨o,ho⟩:=getElem?_of_lt (show i+g.j<g.O.length by omega)
        have ho':=dp g.lmb ho
        have hb:=mO hx' hy'
        have hgc:=g.hc
        obtain⟨g',q1,q2,q3⟩:=uE g hy ho hm hx' hy'
        have e2:(x:Int)*(y:Int)=((x*y:Nat):Int):=by simp
        generalize hp:x*y=p at*
        have e3:IntKind.u32.wrap ((g.c:Int)+((p:Int)+(o:Int)))=(((g.c+(p+o))%4294967296:Nat):Int):=by rw[<- rp];congr 1<;>omega
        have e4:Int.fdiv ((g.c:Int)+((p:Int)+(o:Int))) (2^(min 32 IntKind.u64.bits))=(((g.c+(p+o))/4294967296:Nat):Int):=by rw[<- Dc];congr 1<;>omega
        (refine aa [] fun K hK=>?_;simp(disch:=omega) only[kc,ab,ca,Hm,ak,ah,bA];apply hK)
        refine ae (af rfl (fun _=>aq ?_) (fun h=>by simp at h<;>omega))
        refine ae (aI ?_)
        (refine aa [] fun K hK=>?_;simp(disch:=omega) only[kc,ab,Nat.reduceAdd,ag,au,ao,an,bG,hy,fU,bs,aA,bN];apply hK)
        (refine aa [] fun K hK=>?_;simp(disch:=omega) only[kc,ab,Nat.reduceAdd,bF,ak,Tryz.underlying118,cn,dS,ah,e2,ag,au,ao,an,bs,bH,cb,fU,ho,aA,bN];apply hK)
        (refine aa [] fun K hK=>?_;simp(disch:=omega) only[kc,ab,Nat.reduceAdd,bF,ak,Tryz.underlying88,cJ,e3,ag,au,ao,an,bs,bH,az,df,bJ,cb,fU,ho,cellsOf,Nat.le_refl,isPure,putCells,eh,aS,aT];apply hK)
        ((refine aU [] [] (by simp) fun K hK=>?_);simp(disch:=omega) only[kc,ab,Nat.reduceAdd,ak,ac,Value.oneCell',ah,Int.reduceLE,Int.reduceToNat,e4];apply hK)
        show bT _ _ _ _
        ((refine aU [] [] (by simp) fun K hK=>?_);simp(disch:=omega) only[kc,ab,ak,ac,Value.oneCell',ah,bC];apply hK)
        refine⟨g',by omega,aj ⟨by rw[q2];rfl,trivial⟩ ?_⟩
        simp[b9,bo,bj,q1,q3]
       ·have hgj:=g.hj
        have hgc:=g.hc
        have hgl:=g.len
        obtain⟨g',q1,q2⟩:=uD hx g hn
        have e3:IntKind.u32.wrap (g.c:Int)=(g.c:Int):=by rw[rp];omega
        (refine aa [] fun K hK=>?_;simp(disch:=omega) only[kc,ab,ca,Hm,ak,ah,bf];apply hK)
        refine ae (af rfl (fun h=>by simp at h<;>omega) (fun _=>bv ?_))
        show bT _ _ _ _
        have hz:=g.zero (i+B.length) (Nat.le_refl _) (by omega)
        ((refine aU [] [] (by simp) fun K hK=>?_);simp(disch:=omega) only[kc,ab,Nat.reduceAdd,aw,au,an,aR,bF,ak,Tryz.underlying88,cJ,e3,ag,ao,bs,bH,az,df,bJ,cb,fU,hz,cellsOf,Nat.le_refl,isPure,putCells,eh,aS,aT];apply hK)
        show bT _ _ _ _
        ((refine aU [] [] (by simp) fun K hK=>?_);simp(disch:=omega) only[kc,ab,ak,ac,Value.oneCell',ah,bC];apply hK)
        refine⟨g',by omega,aj ⟨by rw[q2];rfl,trivial⟩ ?_⟩
        simp[b9,bo,bj,q1]
    ·have hfin:natV O=natV A*natV B:=by
      have:i=A.length:=by omega
      rw[val,this,List.take_length]
     have ht:=fg O (by omega)
     rw[fl lmb,hfin]at ht
     (refine aa [] fun K hK=>?_;simp(disch:=omega) only[kc,ab,ca,Hm,ak,ah,bf];apply hK)
     refine ae (af rfl (fun h=>by simp at h<;>omega) (fun _=>bv ?_))
     show bT _ _ _ _
     refine bT.weak ((cQ 31 (dH rfl)).trans (aj (tm:=[jk,jk,jk,jk,jk,ca O,jk,jk,jk,jk,jk,jk,jk,jk,jk,jk,jk,jk,jk,jk,jk,jk,jk,jk,jk,jk,jk,jk,jk,jk,jk,jk,jk,jk,jk,jk,jk,jk,jk,jk,jk,jk,jk,jk,jk,jk,jk,jk,jk,jk,jk,jk,jk,jk,jk,jk,jk,jk,jk,jk,jk,jk,jk,jk,jk,jk,jk,jk,jk,jk,jk,jk,jk,jk,jk,jk,jk,jk,jk,jk,jk,jk,jk,jk,jk,jk]) (l:=[]) trivial (by simp[b9,bo,bj,gH,fu,aJ,Hm,eB,d8,List.take_of_length_le,len]))) ?_
     (refine aa [⟨1,_,_,_,ht⟩] fun K hK=>?_;simp(disch:=omega) only[kc,ca,ar.a,ab,Nat.reduceAdd,Hm,ai,aN,aC,List.find?_cons,aD,aX,CallRes.plain,aF,aH,ap,noRefTV,am,aG,aE];apply hK)
     (refine ay ⟨.inr rfl,aO rfl ?_ rfl⟩;simp(disch:=omega) only[bE,Tryz.results119,aP,List.getElem?_cons_succ,List.getElem?_cons_zero,ca])
/-! Signed numbers. -/
theorem DY {a b:Nat}:0<=gQ a b↔b<=a:=by unfold gQ;split<;>(try split)<;>omega
theorem Ad {na nb:Bool} {a b:Nat} (h:na≠nb) (hle:b<=a):gE na (a-b)=gE na a+gE nb b:=by
 unfold gE;cases na<;>cases nb<;>simp at* <;>omega
theorem Ae {na nb:Bool} {a b:Nat} (h:na≠nb) (hle:a<=b):gE nb (b-a)=gE na a+gE nb b:=by
 unfold gE;cases na<;>cases nb<;>simp at* <;>omega
theorem Id (n:Bool) (a b:Nat):gE n (a+b)=gE n a+gE n b:=by unfold gE;cases n<;>simp<;>omega
theorem vO (na nb:Bool) (a b:Nat) (la:(be a).length<=536870912) (lb:(be b).length<=536870912):CallC Tryz.prog 118 [.raw (.bool na),ca (be a),.raw (.bool nb),ca (be b)] ⟨[],tZ (gE na a+gE nb b)⟩:=by
 by_cases hs:na=nb
 ·subst hs
  have h1:=uz (be a) (be b) (bz _) (bz _) la lb
  rw[aY,aY]at h1
  have h2:=ff na (a+b)
  rw[Id]at h2
  refine ax Tryz.func118 rfl (by kernel_rfl) ?_;rw[Tryz.ntmps118]
  (refine aa [] fun K hK=>?_;simp(disch:=omega) only[kc,ab,ca,Nat.reduceAdd,List.replicate,bu,aN,aC,bi,Value.oneCell',bH];apply hK)
  refine ae (aI ?_)
  (refine aa [] fun K hK=>?_;simp(disch:=omega) only[kc,ab,Nat.reduceAdd,ak,ah,eR];apply hK)
  refine af rfl (fun _=>?_) (fun h=>by simp at h)
  (refine aa [⟨3,_,_,_,h1⟩,⟨4,_,_,_,h2⟩] fun K hK=>?_;simp(disch:=omega) only[kc,ca,tZ,ar.a,ab,Nat.reduceAdd,ai,aN,aC,List.find?_cons,aD,aX,CallRes.plain,aF,aH,ap,noRefTV,am,aG,aE,Nat.reduceBEq,az,df,bJ,aM,aJ,cellsOf,Nat.le_refl,isPure,bH,putCells,aS,aT];apply hK)
  (refine ay ⟨.inr rfl,aO rfl ?_ rfl⟩;simp(disch:=omega) only[kc,bE,Tryz.results118,aP,aJ,cP,aA,aM,aW,Nat.reduceAdd,Nat.le_refl,tZ])
 ·have hne:(na==nb)=false:=by simpa using hs
  have h0:=sf (be a) (be b) (bz _) (bz _) (dr _) (dr _) (by omega) (by omega)
  rw[aY,aY]at h0
  have hge:=DY (a:=a) (b:=b)
  by_cases hle:b<=a
  ·have h1:=pI (be a) (be b) (bz _) (bz _) (iK (bz _) (dr _) (by rw[aY,aY];exact hle)) (by rw[aY,aY];exact hle) la
   rw[aY,aY]at h1
   have h2:=ff na (a-b)
   rw[Ad hs hle]at h2
   have hc:0<=gQ a b:=hge.2 hle
   generalize gQ a b=cv at*
   refine ax Tryz.func118 rfl (by kernel_rfl) ?_;rw[Tryz.ntmps118]
   (refine aa [] fun K hK=>?_;simp(disch:=omega) only[kc,ab,ca,Nat.reduceAdd,List.replicate,bu,aN,aC,bi,Value.oneCell',bH];apply hK)
   refine ae (aI ?_)
   (refine aa [] fun K hK=>?_;simp(disch:=omega) only[kc,ab,Nat.reduceAdd,ak,ah,eR,hne];apply hK)
   refine af rfl (fun h=>by simp at h) (fun _=>?_)
   (refine aa [⟨2,_,_,_,h0⟩] fun K hK=>?_;simp(disch:=omega) only[kc,ca,ar.a,ab,Nat.reduceAdd,ai,aN,aC,List.find?_cons,aD,aX,CallRes.plain,aF,aH,ap,noRefTV,am,aG,aE,ak,ac,Value.oneCell',ah,bA];apply hK)
   refine af rfl (fun _=>?_) (fun h=>by simp at h<;>omega)
   (refine aa [⟨3,_,_,_,h1⟩,⟨4,_,_,_,h2⟩] fun K hK=>?_;simp(disch:=omega) only[kc,ca,tZ,ar.a,ab,Nat.reduceAdd,ai,aN,aC,List.find?_cons,aD,aX,CallRes.plain,aF,aH,ap,noRefTV,am,aG,aE,Nat.reduceBEq,az,df,bJ,aM,aJ,cellsOf,Nat.le_refl,isPure,bH,putCells,aS,aT];apply hK)
   (refine ay ⟨.inr rfl,aO rfl ?_ rfl⟩;simp(disch:=omega) only[kc,bE,Tryz.results118,aP,aJ,cP,aA,aM,aW,Nat.reduceAdd,Nat.le_refl,tZ])
  ·have h1:=pI (be b) (be a) (bz _) (bz _) (iK (bz _) (dr _) (by rw[aY,aY];omega)) (by rw[aY,aY];omega) lb
   rw[aY,aY]at h1
   have h2:=ff nb (b-a)
   rw[Ae hs (by omega)]at h2
   have hc: ¬0<=gQ a b:=fun h=>hle (hge.1 h)
   generalize gQ a b=cv at*
   refine ax Tryz.func118 rfl (by kernel_rfl) ?_;rw[Tryz.ntmps118]
   (refine aa [] fun K hK=>?_;simp(disch:=omega) only[kc,ab,ca,Nat.reduceAdd,List.replicate,bu,aN,aC,bi,Value.oneCell',bH];apply hK)
   refine ae (aI ?_)
   (refine aa [] fun K hK=>?_;simp(disch:=omega) only[kc,ab,Nat.reduceAdd,ak,ah,eR,hne];apply hK)
   refine af rfl (fun h=>by simp at h) (fun _=>?_)
   (refine aa [⟨2,_,_,_,h0⟩] fun K hK=>?_;simp(disch:=omega) only[kc,ca,ar.a,ab,Nat.reduceAdd,ai,aN,aC,List.find?_cons,aD,aX,CallRes.plain,aF,aH,ap,noRefTV,am,aG,aE,ak,ac,Value.oneCell',ah,bf];apply hK)
   refine af rfl (fun h=>by simp at h<;>omega) (fun _=>aq ?_)
   show bT _ _ _ _
   (refine aa [⟨3,_,_,_,h1⟩,⟨4,_,_,_,h2⟩] fun K hK=>?_;simp(disch:=omega) only[kc,ca,tZ,ar.a,ab,Nat.reduceAdd,ai,aN,aC,List.find?_cons,aD,aX,CallRes.plain,aF,aH,ap,noRefTV,am,aG,aE,Nat.reduceBEq,az,df,bJ,aM,aJ,cellsOf,Nat.le_refl,isPure,bH,putCells,aS,aT];apply hK)
   (refine ay ⟨.inr rfl,aO rfl ?_ rfl⟩;simp(disch:=omega) only[kc,bE,Tryz.results118,aP,aJ,cP,aA,aM,aW,Nat.reduceAdd,Nat.le_refl,tZ])
theorem Jq (a b:Int) (ha:Bh a) (hb:Bh b):CallC Tryz.prog 86 [tZ a,tZ b] ⟨[],tZ (a-b)⟩:=by
 have t1:=fg (be a.natAbs) ha.bg.len
 have t2:=fg (be b.natAbs) hb.bg.len
 rw[gP]at t1 t2
 have h:=vO (decide (a<0)) (!decide (b<0)) a.natAbs b.natAbs ha.len hb.len
 rw[vV,zJ,<- Int.sub_eq_add_neg]at h
 refine ax Tryz.func86 rfl (by kernel_rfl) ?_;rw[Tryz.ntmps86]
 (refine aa [] fun K hK=>?_;simp(disch:=omega) only[kc,ab,Nat.reduceAdd,tZ,List.replicate,cf,aN,aC,cellsOf,isPure,bH,aJ,Nat.reduceEqDiff,bu,bi,Value.oneCell',cP];apply hK)
 (refine bS bY [⟨4,_,_,_,t1⟩,⟨10,_,_,_,t2⟩,⟨11,_,_,_,h⟩] [] (by kernel_rfl) (by simp) fun K hK=>?_;simp(disch:=omega) only[kc,ca,tZ,ar.a,ab,Nat.reduceAdd,aK,au,bP,db,Nat.add_zero,aJ,Nat.reduceEqDiff,cP,aA,cE,bU,cH,cj,ai,aN,aC,List.find?_cons,aD,aX,CallRes.plain,aF,aH,ap,noRefTV,am,aG,aE,bW,ak,dc,Nat.reduceBEq,az,df,bJ,aM,cellsOf,Nat.le_refl,isPure,bH,putCells,aS,aT];apply hK)
 (refine ay ⟨.inr rfl,aO rfl ?_ rfl⟩;simp(disch:=omega) only[kc,bE,Tryz.results86,aP,aJ,Nat.reduceEqDiff,cP,aA,aM,aW,Nat.reduceAdd,Nat.le_refl,tZ])
theorem Eu (a b:Int) (ha:Bh a) (hb:Bh b):CallC Tryz.prog 87 [tZ a,tZ b] ⟨[],tZ (a*b)⟩:=by
 have t1:=fg (be a.natAbs) ha.bg.len
 have t2:=fg (be b.natAbs) hb.bg.len
 rw[gP]at t1 t2
 have h:=CE (be a.natAbs) (be b.natAbs) (bz _) (bz _) ha.len hb.len
 rw[aY,aY]at h
 have h2:=ff (!(decide (a<0)==decide (b<0))) (a.natAbs*b.natAbs)
 rw[Bi]at h2
 refine ax Tryz.func87 rfl (by kernel_rfl) ?_;rw[Tryz.ntmps87]
 (refine aa [] fun K hK=>?_;simp(disch:=omega) only[kc,ab,Nat.reduceAdd,tZ,List.replicate,cf,aN,aC,cellsOf,isPure,bH,aJ,Nat.reduceEqDiff,bu,bi,Value.oneCell',cP];apply hK)
 (refine bS bY [⟨7,_,_,_,t1⟩,⟨10,_,_,_,t2⟩,⟨11,_,_,_,h⟩,⟨12,_,_,_,h2⟩] [] (by kernel_rfl) (by simp) fun K hK=>?_;simp(disch:=omega) only[kc,ca,tZ,ar.a,ab,Nat.reduceAdd,aK,au,bP,db,Nat.add_zero,aJ,Nat.reduceEqDiff,cP,aA,cE,ak,ah,eR,bU,cH,cj,ai,aN,aC,List.find?_cons,aD,aX,CallRes.plain,aF,aH,ap,noRefTV,am,aG,aE,Nat.reduceBEq,az,df,bJ,aM,cellsOf,Nat.le_refl,isPure,bH,putCells,aS,aT];apply hK)
 (refine ay ⟨.inr rfl,aO rfl ?_ rfl⟩;simp(disch:=omega) only[kc,bE,Tryz.results87,aP,aJ,Nat.reduceEqDiff,cP,aA,aM,aW,Nat.reduceAdd,Nat.le_refl,tZ])
theorem Kc {U V L v1 high q : Nat} (hV : v1 * 4294967296 * L <= V) (hU : U < (high + 1) * 4294967296 * L) (hq : q * V <= U) (hL : 0 < L) : q * v1 <= high := by
  have h1 : q * (v1 * 4294967296 * L) <= q * V := Nat.mul_le_mul_left _ hV
  have h2 : (q * v1) * (4294967296 * L) < (high + 1) * (4294967296 * L) := by
    calc (q * v1) * (4294967296 * L) = q * (v1 * 4294967296 * L) := by grind
      _ <= q * V := h1
      _ <= U := hq
      _ < (high + 1) * 4294967296 * L := hU
      _ = (high + 1) * (4294967296 * L) := by grind
  have := Nat.lt_of_mul_lt_mul_right h2
  omega
theorem Kb {U V L v1 v2 u0 high g r q : Nat} (hV : (v1 * 4294967296 + v2) * L <= V) (hU : U < (high * 4294967296 + u0 + 1) * L) (hq : q * V <= U) (hg : g * v1 + r = high) (h : r * 4294967296 + u0 < g * v2) : q < g := by
  by_cases hc : q < g
  · exact hc
  · exfalso
    have h1 : g * ((v1 * 4294967296 + v2) * L) <= U := Nat.le_trans (Nat.mul_le_mul (Nat.le_of_not_lt hc) hV) hq
    have h2 : (g * (v1 * 4294967296 + v2)) * L < (high * 4294967296 + u0 + 1) * L := by
      calc (g * (v1 * 4294967296 + v2)) * L = g * ((v1 * 4294967296 + v2) * L) := by grind
        _ <= U := h1
        _ < _ := hU
    have h3 := Nat.lt_of_mul_lt_mul_right h2
    have h4 : g * (v1 * 4294967296 + v2) = g * v1 * 4294967296 + g * v2 := by grind
    have h5 : high * 4294967296 = g * v1 * 4294967296 + r * 4294967296 := by rw [<- hg]; grind
    omega
theorem G0 {U V L vl v1 v2 t3 g q : Nat} (hV : V = (v1 * 4294967296 + v2) * L + vl) (hvl : vl < L) (hU : t3 * L <= U) (hq : U < (q + 1) * V) (hg : g * (v1 * 4294967296 + v2) <= t3) (hB : g <= 4294967296) (hv1 : 1 <= v1) : g <= q + 1 := by
  have h1 : g * V <= U + g * vl := by
    calc g * V = (g * (v1 * 4294967296 + v2)) * L + g * vl := by rw [hV]; grind
      _ <= t3 * L + g * vl := Nat.add_le_add_right (Nat.mul_le_mul_right _ hg) _
      _ <= _ := Nat.add_le_add_right hU _
  have h2 : g * vl <= 4294967296 * L := Nat.mul_le_mul hB (Nat.le_of_lt hvl)
  have h3 : 4294967296 * L <= V := by
    rw [hV]
    have : 4294967296 * L <= (v1 * 4294967296 + v2) * L := Nat.mul_le_mul_right _ (by omega)
    omega
  have h4 : g * V < (q + 2) * V := by
    calc g * V <= U + V := by omega
      _ < (q + 1) * V + V := by omega
      _ = (q + 2) * V := by grind
  have := Nat.lt_of_mul_lt_mul_right h4
  omega
structure F9 (u v:List Nat) (g:Nat) where
 i:Nat
 us:List Nat
 c:Nat
 b:Nat
 hi:i<=v.length
 len:us.length=i
 lmb:Lmb us
 hc:c<4294967296
 hb:b<=1
 val:natV us+g*natV (v.take i)=natV (u.take i)+(c+b)*4294967296^i
def F9.start (u v:List Nat) (g:Nat):F9 u v g:=⟨0,[],0,0,Nat.zero_le _,rfl,fun a h=>by simp at h,by omega,by omega,by simp[natV]⟩
theorem mP (l:List Nat) (a:Nat):natV (l++[a])=natV l+a*4294967296^l.length:=by
 rw[iJ];simp[natV];grind
theorem l6 {l:List Nat} {a:Nat} (h:Lmb l) (ha:a<4294967296):Lmb (l++[a]):=fun x hx=>by
 rcases List.mem_append.1 hx with h1|h1
 ·exact h x h1
 ·simp at h1;omega
theorem xM {g x c:Nat} (hg:g<=4294967296) (hx:x<4294967296) (hc:c<4294967296):c+g*x<18446744073709551616/\(c+g*x)/4294967296<4294967296:=by
 have:g*x<=4294967296*4294967295:=Nat.mul_le_mul hg (by omega)
 omega
theorem G9 {u v:List Nat} {g:Nat} (m:F9 u v g) {x y l b':Nat} (hg:g<=4294967296) (hx:v[m.i]?=some x) (hy:u[m.i]?=some y) (lv:Lmb v) (hl:l<4294967296) (hb':b'<=1)
  (ht:l+(m.c+g*x)%4294967296+m.b=y+b'*4294967296): ∃m':F9 u v g,m'.i=m.i+1/\m'.us=m.us++[l]/\m'.c=(m.c+g*x)/4294967296/\m'.b=b':=by
 have hx':=dp lv hx
 refine⟨⟨m.i+1,m.us++[l],(m.c+g*x)/4294967296,b',?_,by rw[List.length_append,m.len];rfl,l6 m.lmb hl,(xM hg hx' m.hc).2,hb',?_⟩,rfl,rfl,rfl,rfl⟩
 ·have:=(List.getElem?_eq_some_iff.1 hx).1;omega
 ·have hv:=m.val
  rw[mP,m.len,co hx,co hy,Nat.pow_succ]
  have hs:m.c+g*x=(m.c+g*x)%4294967296+4294967296*((m.c+g*x)/4294967296):=by omega
  generalize(m.c+g*x)%4294967296=lo at*
  generalize(m.c+g*x)/4294967296=hi' at*
  generalize 4294967296^m.i=p at*
  have h1:g*(natV (v.take m.i)+x*p)=g*natV (v.take m.i)+g*x*p:=by grind
  have h2:g*x=lo+4294967296*hi'-m.c:=by omega
  have h3:(l+lo+m.b)*p=(y+b'*4294967296)*p:=by rw[ht]
  have h4:(m.c+g*x)*p=(lo+4294967296*hi')*p:=by rw[hs]
  grind
structure Ge (u v:List Nat) where
 i:Nat
 us:List Nat
 c:Nat
 hi:i<=v.length
 len:us.length=i
 lmb:Lmb us
 hc:c<=1
 val:natV us+c*4294967296^i=natV (u.take i)+natV (v.take i)
def Ge.start (u v:List Nat):Ge u v:=⟨0,[],0,Nat.zero_le _,rfl,fun a h=>by simp at h,by omega,by simp[natV]⟩
theorem Gt {u v:List Nat} (m:Ge u v) {x y:Nat} (hx:v[m.i]?=some x) (hy:u[m.i]?=some y) (lv:Lmb v) (lu:Lmb u):
  ∃m':Ge u v,m'.i=m.i+1/\m'.us=m.us++[(m.c+(y+x))%4294967296]/\m'.c=(m.c+(y+x))/4294967296:=by
 have hx':=dp lv hx
 have hy':=dp lu hy
 have hc:=m.hc
 refine⟨⟨m.i+1,m.us++[(m.c+(y+x))%4294967296],(m.c+(y+x))/4294967296,?_,by rw[List.length_append,m.len];rfl,l6 m.lmb (Nat.mod_lt _ (by omega)),by omega,?_⟩,rfl,rfl,rfl⟩
 ·have:=(List.getElem?_eq_some_iff.1 hx).1;omega
 ·have hv:=m.val
  rw[mP,m.len,co hx,co hy,Nat.pow_succ]
  have hs:m.c+(y+x)=(m.c+(y+x))%4294967296+4294967296*((m.c+(y+x))/4294967296):=by omega
  generalize(m.c+(y+x))%4294967296=lo at*
  generalize(m.c+(y+x))/4294967296=hi' at*
  generalize 4294967296^m.i=p at*
  have h4:(m.c+(y+x))*p=(lo+4294967296*hi')*p:=by rw[hs]
  grind
theorem Ez {U V g q R:Nat} (hq:q=U/V) (hg:q<=g) (h:R+g*V=U) (hV:0<V):g=q/\R=U%V:=by
 have h1:g<=U/V:=(Nat.le_div_iff_mul_le hV).2 (by omega)
 have h2:g=q:=by omega
 refine⟨h2,?_⟩
 have:=Nat.div_add_mod U V
 rw[<- hq,<- h2,Nat.mul_comm]at this
 omega
theorem GZ {U V g q R T Bn c t W:Nat} (hq:q=U/V) (hg:g<=q+1) (h:R+g*V=U+4294967296*Bn) (hlt:U<g*V) (hV:0<V) (hVB:V<=Bn) (hW:W<Bn)
  (hR:R=T+t*Bn) (ht:W+c*Bn=T+V) (hc:c<=1) (htt:t<4294967296):g=q+1/\(t+c)%4294967296=0/\W=U%V:=by
 have h1:g=q+1:=by
  by_cases hh:g=q+1
  ·exact hh
  ·exfalso
   have:g*V<=(U/V)*V:=Nat.mul_le_mul_right _ (by omega)
   have:=Nat.div_mul_le_self U V
   omega
 have h2:=Nat.div_add_mod U V
 have h3:=Nat.mod_lt U hV
 rw[<- hq]at h2
 subst h1
 have h4:(q+1)*V=V*q+V:=by grind
 have h5:W+(t+c)*Bn=U%V+4294967296*Bn:=by
  have:(t+c)*Bn=t*Bn+c*Bn:=by grind
  omega
 have h6:t+c=4294967296:=by
  rcases Nat.lt_trichotomy (t+c) 4294967296 with hh|hh|hh
  ·exfalso
   have:(t+c)*Bn+Bn<=4294967296*Bn:=by
    have:=Nat.mul_le_mul_right Bn (show t+c+1<=4294967296 by omega)
    have e:(t+c+1)*Bn=(t+c)*Bn+Bn:=by grind
    omega
   omega
  ·exact hh
  ·omega
 refine⟨rfl,by rw[h6],?_⟩
 rw[h6]at h5
 omega
def cL:Nat->Nat->List Nat
 |0,_=>[]
 |n+1,x=>x%4294967296::cL n (x/4294967296)
theorem cK: ∀n x,(cL n x).length=n
 |0,_=>rfl
 |n+1,x=>by simp[cL,cK n]
theorem l5: ∀n x,Lmb (cL n x)
 |0,_=>fun a h=>by simp[cL]at h
 |n+1,x=>by rw[cL,ez];exact⟨Nat.mod_lt _ (by omega),l5 n _⟩
theorem uI: ∀n x,natV (cL n x)=x%4294967296^n
 |0,x=>by simp[cL,natV,Nat.mod_one]
 |n+1,x=>by
  rw[cL,natV,uI n,Nat.pow_succ,Nat.mul_comm (4294967296^n),Nat.mod_mul]
theorem gu {n x:Nat} (h:x<4294967296^n):natV (cL n x)=x:=by rw[uI,Nat.mod_eq_of_lt h]
theorem AX: ∀{l:List Nat},Lmb l->l=cL l.length (natV l)
 |[],_=>rfl
 |a::l,h=>by
  rw[ez]at h
  have h1:(a+4294967296*natV l)%4294967296=a:=by omega
  have h2:(a+4294967296*natV l)/4294967296=natV l:=by omega
  show a::l=cL (l.length+1) (natV (a::l))
  rw[cL,natV,h1,h2,<- AX h.2]
theorem xv {l:List Nat} {n x:Nat} (h:Lmb l) (hn:l.length=n) (hx:natV l=x):l=cL n x:=by
 subst hn hx;exact AX h
theorem gd: ∀{n x i:Nat},i<n->(cL n x)[i]?=some (x/4294967296^i%4294967296)
 |0,_,_,h=>by omega
 |n+1,x,0,_=>by simp[cL]
 |n+1,x,i+1,h=>by
  rw[cL,List.getElem?_cons_succ,gd (by omega),Nat.div_div_eq_div_mul,Nat.pow_succ,Nat.mul_comm 4294967296]
theorem p9 {n x:Nat} (h:x<4294967296^n):eH (cL n x)=be x:=by
 rw[fl (l5 _ _),gu h]
theorem oS {l:List Nat} {i a:Nat} (h:l[i]?=some a):natV (l.drop i)=a+4294967296*natV (l.drop (i+1)):=by rw[eX h,natV]
/-! Short division. -/
theorem Fy {a b Y:Nat} (hb:0<b) (ha:a<4294967296):(a+4294967296*Y)/b%4294967296=(Y%b*4294967296+a)/b/\(a+4294967296*Y)/b/4294967296=Y/b/\(a+4294967296*Y)%b=(Y%b*4294967296+a)%b:=by
 have h1:=Nat.div_add_mod Y b
 have h2:=Nat.mod_lt Y hb
 generalize hq:Y/b=q at*
 generalize hr:Y%b=r at*
 have e:a+4294967296*Y=b*(4294967296*q)+(r*4294967296+a):=by rw[<- h1];grind
 have hlt:(r*4294967296+a)/b<4294967296:=by
  rw[Nat.div_lt_iff_lt_mul hb]
  have:(r+1)*4294967296<=b*4294967296:=Nat.mul_le_mul_right _ (by omega)
  omega
 rw[e,Nat.mul_add_div hb,Nat.mul_add_mod]
 generalize(r*4294967296+a)/b=t at*
 refine⟨by omega,by omega,Nat.mul_add_mod _ _ _⟩
theorem H9 {l:List Nat} {i a b n:Nat} (hn:l.length=n) (hi:i<n) (ha:l[i]?=some a) (ha':a<4294967296) (hb:0<b):
  (l.take (i+1)++cL (n-(i+1)) (natV (l.drop (i+1))/b)).set i ((natV (l.drop (i+1))%b*4294967296+a)/b)=l.take i++cL (n-i) (natV (l.drop i)/b)/\
  (natV (l.drop (i+1))%b*4294967296+a)%b=natV (l.drop i)%b:=by
 obtain⟨h1,h2,h3⟩:=Fy (Y:=natV (l.drop (i+1))) hb ha'
 rw[oS ha]
 refine⟨?_,h3.symm⟩
 rw[show n-i=n-(i+1)+1 by omega,cL,h1,h2,List.take_add_one,ha]
 simp only[Option.toList_some,List.append_assoc,List.singleton_append]
 rw[List.set_append_right _ _ (by simp;omega)]
 have e:i-(l.take i).length=0:=by simp;omega
 rw[e,List.set_cons_zero]
/-! Shifts. -/
theorem xX {s:Nat} (hs:s<32):2^s<=2147483648/\1<=2^s:=⟨by have:=Nat.pow_le_pow_right (n:=2) (by omega) (show s<=31 by omega);simpa using this,Nat.one_le_two_pow⟩
theorem FL {X Y s:Nat} (hs:s<=32):(X+18446744073709551616*Y)/2^s%4294967296=X/2^s%4294967296:=by
 have e:18446744073709551616*Y=2^s*(2^(32-s)*(4294967296*Y)):=by
  rw[<- Nat.mul_assoc,<- Nat.pow_add,show s+(32-s)=32 by omega];grind
 rw[e,Nat.add_mul_div_left _ _ (Nat.two_pow_pos s)]
 have e2:2^(32-s)*(4294967296*Y)=4294967296*(2^(32-s)*Y):=by grind
 rw[e2,Nat.add_mul_mod_self_left]
theorem Kk {l:List Nat} (hl:Lmb l) {i s:Nat} (hs:s<=32):natV l/2^s/4294967296^i%4294967296=(l.getD i 0+4294967296*l.getD (i+1) 0)/2^s%4294967296:=by
 have e:natV l/2^s/4294967296^i=natV (l.drop i)/2^s:=by
  rw[Nat.div_div_eq_div_mul,Nat.mul_comm,<- Nat.div_div_eq_div_mul]
  congr 1
  by_cases hi:i<=l.length
  ·have h1:natV l=natV (l.take i)+4294967296^i*natV (l.drop i):=by
    conv=>lhs;rw[<- List.take_append_drop i l]
    rw[iJ,List.length_take,Nat.min_eq_left hi]
   have h2:=fD hl i
   rw[h1,Nat.add_mul_div_left _ _ (Nat.pow_pos (by omega)),Nat.div_eq_of_lt h2,Nat.zero_add]
  ·rw[List.drop_eq_nil_iff.2 (by omega)]
   have h2:=gp hl
   have h3:4294967296^l.length<=4294967296^i:=Nat.pow_le_pow_right (by omega) (by omega)
   rw[Nat.div_eq_of_lt (by omega)];rfl
 rw[e]
 have g: ∀j,natV (l.drop j)=l.getD j 0+4294967296*natV (l.drop (j+1)):=fun j=>by
  rw[List.getD_eq_getElem?_getD]
  cases h:l[j]? with
  |none=>
   rw[List.getElem?_eq_none_iff]at h
   rw[List.drop_eq_nil_iff.2 h,List.drop_eq_nil_iff.2 (by omega)];rfl
  |some a=>exact oS h
 rw[g i,g (i+1)]
 have e2:l.getD i 0+4294967296*(l.getD (i+1) 0+4294967296*natV (l.drop (i+1+1)))=(l.getD i 0+4294967296*l.getD (i+1) 0)+18446744073709551616*natV (l.drop (i+1+1)):=by grind
 rw[e2,FL hs]
theorem BC {l:List Nat} (hl:Lmb l) {i s n v:Nat} (hs:s<=32) (hn:l.length=n) (hi:i<n) (hv:v=(l.getD i 0+4294967296*l.getD (i+1) 0)/2^s%4294967296):
  ((cL n (natV l/2^s)).take i++l.drop i).set i v=(cL n (natV l/2^s)).take (i+1)++l.drop (i+1):=by
 have hg:=gd (n:=n) (x:=natV l/2^s) hi
 rw[Kk hl hs,<- hv]at hg
 have hd:l.drop i=l[i]'(by omega)::l.drop (i+1):=List.drop_eq_getElem_cons (by omega)
 rw[List.set_append_right _ _ (by simp[cK];omega),List.take_add_one,hg,hd]
 have e:i-((cL n (natV l/2^s)).take i).length=0:=by simp[cK];omega
 rw[e,List.set_cons_zero]
 simp
def tf (m:List Nat) (s i:Nat):Nat:=natV (m.take i)*2^s/4294967296^i
theorem JG {m:List Nat} (hm:Lmb m) (s i:Nat):tf m s i<2^s:=by
 unfold tf
 rw[Nat.div_lt_iff_lt_mul (Nat.pow_pos (by omega)),Nat.mul_comm]
 exact Nat.mul_lt_mul_of_pos_left (fD hm i) (Nat.two_pow_pos s)
theorem If {m:List Nat} {s i a:Nat} (ha:m[i]?=some a):tf m s i+a*2^s=natV (m.take (i+1))*2^s/4294967296^i/\(tf m s i+a*2^s)/4294967296=tf m s (i+1):=by
 have h1:=co ha
 have e:natV (m.take (i+1))*2^s=natV (m.take i)*2^s+4294967296^i*(a*2^s):=by rw[h1];grind
 have h2:tf m s i+a*2^s=natV (m.take (i+1))*2^s/4294967296^i:=by
  unfold tf
  rw[e,Nat.add_mul_div_left _ _ (Nat.pow_pos (by omega))]
 refine⟨h2,?_⟩
 rw[h2]
 unfold tf
 rw[Nat.div_div_eq_div_mul,Nat.pow_succ]
theorem JH {m:List Nat} {s i j:Nat} (hj:j<i) (hi:i<=m.length):natV (m.take i)*2^s/4294967296^j%4294967296=natV m*2^s/4294967296^j%4294967296:=by
 have h1:natV m=natV (m.take i)+4294967296^i*natV (m.drop i):=by
  conv=>lhs;rw[<- List.take_append_drop i m]
  rw[iJ,List.length_take,Nat.min_eq_left hi]
 obtain⟨d,rfl⟩: ∃d,i=j+1+d:=⟨i-(j+1),by omega⟩
 have e:natV m*2^s=natV (m.take (j+1+d))*2^s+4294967296^j*(4294967296*(4294967296^d*natV (m.drop (j+1+d))*2^s)):=by
  rw[h1,Nat.pow_add,Nat.pow_add];grind
 rw[e,Nat.add_mul_div_left _ _ (Nat.pow_pos (by omega)),Nat.add_mul_mod_self_left]
theorem uN {n x:Nat}:cL (n+1) x=cL n x++[x/4294967296^n%4294967296]:=by
 apply List.ext_getElem?
 intro i
 rcases Nat.lt_trichotomy i n with h|h|h
 ·rw[gd (by omega),List.getElem?_append_left (by rw[cK];exact h),gd h]
 ·subst h
  rw[gd (by omega),List.getElem?_append_right (by rw[cK];exact Nat.le_refl _),cK,Nat.sub_self];rfl
 ·rw[List.getElem?_eq_none (by rw[cK];omega),List.getElem?_eq_none (by simp[cK];omega)]
end Go.Proofs.YtpgghglbpcabkaaGreat
