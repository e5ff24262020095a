/-
  Part 15 of a proof (walks and plain facts).
-/
import Derived.Test.YtpgghglbpcabkaaGreatP13
import Derived.Lib.BitFns
import Derived.Shelf.Small.Bits
import Derived.Ground.NamesProg
import Derived.Test.YtpgghglbpcabkaaGreatProg
set_option linter.all false
set_option maxRecDepth 100000
set_option maxHeartbeats 64000000
namespace Go.Proofs.YtpgghglbpcabkaaGreat
open Go.RowKit
theorem oC {a s:Nat} (h:a*2^s<18446744073709551616) (hs:s<=64):IntKind.u64.wrap ((a:Int)*2^(min s IntKind.u64.bits))=((a*2^s:Nat):Int):=by
 rw[show min s IntKind.u64.bits=s from Nat.min_eq_left hs,IntKind.wrap_u64]
 have e:(a:Int)*2^s=((a*2^s:Nat):Int):=by simp
 rw[e]
 omega
theorem vR {a s:Nat} (hs:s<=64):Int.fdiv (a:Int) (2^(min s IntKind.u64.bits))=((a/2^s:Nat):Int):=by
 rw[show min s IntKind.u64.bits=s from Nat.min_eq_left hs]
 have e:(2:Int)^s=((2^s:Nat):Int):=by simp
 rw[e,Int.fdiv_eq_ediv_of_nonneg _ (Int.natCast_nonneg _)]
 simp
theorem l4 (m:List Nat) (s:Nat) (lm:Lmb m) (hs:s<32) (bm:m.length<=536870912):CallC Tryz.prog 148 [bO m,.raw (.int .i64 (s:Int))] ⟨[⟨118,1,lc fU (b9 (m.length+1) (natV m*2^s))⟩],.one (.sl 0 0 0 (m.length+1))⟩:=by
 have hp:=sR hs
 have ep:(m.length:Int)+1=((m.length+1:Nat):Int):=by omega
 refine aC Tryz.func148 rfl (by kernel_rfl) ?_;rw[Tryz.ntmps148]
 (refine aa [] fun K hK=>?_;simp(disch:=omega) only[kc,ab,bO,Nat.reduceAdd,List.replicate,ac,Value.oneCell'];apply hK)
 (refine aa [] fun K hK=>?_;simp(disch:=omega) only[kc,ab,Nat.reduceAdd,aq,ao,ah,aD,aj,ac,Value.oneCell',ai,ep,bC,ca,aT,aI,cp,aO,dz,Int.natCast_nonneg,and_true,iV,bL];apply hK)
 (refine aa [] fun K hK=>?_;simp(disch:=omega) only[kc,ab,ac,Value.oneCell'];apply hK)
 (refine ae (aa [] fun K hK=>?_);simp(disch:=omega) only[kc,ab,Nat.reduceAdd,aq,ao,ah,aD,ac,Value.oneCell'];apply hK)
 refine bT (G:=uu m.length) (fun g=>⟨[bO m,.raw (.int .i64 (s:Int)),jk,jk,jk,.one (.sl 12 0 0 (m.length+1)),.raw (.int .u64 (po m s g.i:Nat)),jk,jk,jk,jk,jk,jk,bO m,.raw (.int .i64 (m.length:Int)),.raw (.int .i64 (g.i:Int)),jk,jk,jk,jk,jk,jk,jk,jk,jk,jk,jk,jk,jk,jk,jk,jk,jk,jk,jk,jk,jk,jk,jk,jk,jk],Hm [(12,[⟨118,1,lc fU (b9 g.i (natV m*2^s)++List.replicate (m.length+1-g.i) 0)⟩])]⟩) (fun g=>m.length-g.i) ⟨0,by omega⟩ ?_ ?_
 ·refine am ⟨?_,trivial⟩ ?_
  ·simp[au,Hm,b9]
  ·simp[cu,bD,bA,po,natV]
 ·rintro⟨i,hi⟩
  simp only
  have hcl:=Ek lm s i
  by_cases hm:i<m.length
  ·obtain⟨a,ha⟩:=getElem?_of_lt hm
   have ha':=ct lm ha
   obtain⟨k1,k2⟩:=Ce (s:=s) ha
   have hlow:=Et (m:=m) (s:=s) (i:=i+1) (j:=i) (by omega) (by omega)
   rw[<- k1]at hlow
   have hmul:a*2^s<=4294967295*2147483648:=Nat.mul_le_mul (by omega) hp.1
   have e1:=oC (a:=a) (s:=s) (by omega) (by omega)
   have e2:=rJ (po m s i) (a*2^s) (by omega) (by omega)
   rw[nr a (po m s i) s hcl]at e2
   have e3:IntKind.u32.wrap ((a*2^s+po m s i:Nat):Int)=((natV m*2^s/4294967296^i%4294967296:Nat):Int):=by rw[nB,Nat.add_comm,hlow]
   have e4:Int.fdiv ((a*2^s+po m s i:Nat):Int) (2^(min 32 IntKind.u64.bits))=((po m s (i+1):Nat):Int):=by rw[ya,Nat.add_comm,k2]
   have hz:m.length+1-i=(m.length-i)+1:=by omega
   have hg:=mv (b9 i (natV m*2^s)) (m.length-i)
   have hset:=kx (b9 i (natV m*2^s)) (m.length-i) (natV m*2^s/4294967296^i%4294967296)
   rw[b6]at hg hset
   rw[<- pU]at hset
   rw[hz]
   obtain⟨c1,hc1⟩: ∃c1,c1=po m s (i+1):=⟨_,rfl⟩
   obtain⟨P1,hP1⟩: ∃P1,P1=b9 (i+1) (natV m*2^s):=⟨_,rfl⟩
   rw[<- hc1]at e4
   rw[<- hP1]at hset
   clear k1 k2 hlow
   generalize po m s i=c0 at*
   generalize natV m*2^s/4294967296^i%4294967296=dg at*
   generalize b9 i (natV m*2^s)=P0 at*
   generalize hal:a*2^s=al at*
   (refine aa [] fun K hK=>?_;simp(disch:=omega) only[kc,ab,bO,Hm,aj,ai,bE];apply hK)
   refine ae (af rfl (fun _=>ay ?_) (fun h=>by simp at h<;>omega))
   refine ae (aU ?_)
   (refine aa [] fun K hK=>?_;simp(disch:=omega) only[kc,ab,Nat.reduceAdd,ag,ao,an,ah,bI,ha,fU,aO,ax,bu];apply hK)
   (refine aa [] fun K hK=>?_;simp(disch:=omega) only[kc,ab,Nat.reduceAdd,bf,aj,Tryz.underlying118,bP,cS,ai,Int.natCast_nonneg,e1,e2];apply hK)
   (refine aa [] fun K hK=>?_;simp(disch:=omega) only[kc,ab,Nat.reduceAdd,bf,aj,Tryz.underlying88,bZ,e3,ag,ao,an,ah,aO,bL,aB,dr,bN,b8,fU,hg,cellsOf,Nat.le_refl,isPure,putCells,dy,hset,aH,aL];apply hK)
   ((refine aX [] [] (by simp) fun K hK=>?_);simp(disch:=omega) only[kc,ab,Nat.reduceAdd,aj,ac,Value.oneCell',ai,Int.reduceLE,Int.reduceToNat,e4];apply hK)
   show bX _ _ _ _
   ((refine aX [] [] (by simp) fun K hK=>?_);simp(disch:=omega) only[kc,ab,aj,ac,Value.oneCell',ai,bC];apply hK)
   refine⟨⟨i+1,by omega⟩,by simp only;omega,am ⟨?_,trivial⟩ ?_⟩
   ·show _=[(⟨_,_,lc fU (b9 (i+1) (natV m*2^s)++List.replicate (m.length+1-(i+1)) 0)⟩:OObj)]
    rw[show m.length+1-(i+1)=m.length-i by omega,<- hP1];rfl
   ·simp[cu,bD,bA,hc1]
  ·have hie:i=m.length:=by omega
   subst hie
   have hc:po m s m.length=natV m*2^s/4294967296^m.length:=by unfold po;rw[List.take_length]
   have hd:po m s m.length%4294967296=po m s m.length:=Nat.mod_eq_of_lt (by omega)
   have e3:IntKind.u32.wrap ((po m s m.length:Nat):Int)=((natV m*2^s/4294967296^m.length%4294967296:Nat):Int):=by rw[nB,hc]
   have hz:m.length+1-m.length=0+1:=by omega
   have hg:=mv (b9 m.length (natV m*2^s)) 0
   have hset:=kx (b9 m.length (natV m*2^s)) 0 (natV m*2^s/4294967296^m.length%4294967296)
   rw[b6]at hg hset
   rw[<- pU,List.replicate_zero,List.append_nil]at hset
   rw[hz]
   clear hc hd
   generalize b9 (m.length+1) (natV m*2^s)=R at*
   generalize b9 m.length (natV m*2^s)=P0 at*
   generalize natV m*2^s/4294967296^m.length%4294967296=dg at*
   generalize po m s m.length=c0 at*
   (refine aa [] fun K hK=>?_;simp(disch:=omega) only[kc,ab,bO,Hm,aj,ai,bj];apply hK)
   refine ae (af rfl (fun h=>by simp at h<;>omega) (fun _=>bF ?_))
   show bX _ _ _ _
   (refine aa [] fun K hK=>?_;simp(disch:=omega) only[kc,ab,Nat.reduceAdd,aq,ao,ah,aD,bf,aj,Tryz.underlying88,bZ,e3,ag,an,aO,bL,aB,dr,bN,b8,fU,hg,cellsOf,Nat.le_refl,isPure,putCells,dy,hset,aH,aL];apply hK)
   (refine aa [] fun K hK=>?_;simp(disch:=omega) only[kc,ab];apply hK)
   refine aE ⟨.inr rfl,_,du.refl _,?_⟩
   refine⟨.one (.sl 12 0 0 (m.length+1)),12,?_,rfl,?_,rfl⟩
   ·simp(disch:=omega) only[bK,Tryz.results148,aN,List.getElem?_cons_succ,List.getElem?_cons_zero]
   ·show _=[_]
    simp[db,mb]
def xL (l:List Nat) (b i:Nat):List Nat:=l.take i++b9 (l.length-i) (natV (l.drop i)/b)
theorem Cr (l:List Nat) (b:Nat) {i:Nat} (h:i<=l.length):(xL l b i).length=l.length:=by simp[xL,b6];omega
theorem nf (l:List Nat) (b:Nat) (ll:Lmb l) (hb:0<b) (hb':b<4294967296) (hl:0<l.length) (bl:l.length<=536870912):
  mR Tryz.prog 146 [.undef,.raw (.int .u32 (b:Int))] 0 0 l.length ⟨118,1,lc fU l⟩ ⟨118,1,lc fU (b9 l.length (natV l/b))⟩ (.raw (.int .u32 ((natV l%b:Nat):Int))):=by
 refine oc Tryz.func146 rfl (by kernel_rfl) (by simp) hl (by simp[lc]) (dX _ _) rfl (by simp[lc,b6]) (dX _ _) rfl ?_
 rw[Tryz.ntmps146]
 (refine bG [] [] (by kernel_rfl) (by simp) fun K hK=>?_;simp(disch:=omega) only[kc,ab,Nat.reduceAdd,List.replicate,ac,Value.oneCell'];apply hK)
 (refine bG [] [] (by kernel_rfl) (by simp) fun K hK=>?_;simp(disch:=omega) only[kc,ab,ac,Value.oneCell'];apply hK)
 have e0:(l.length:Int)-1=(l.length:Int)-1:=rfl
 (refine cI (bG [] [] (by kernel_rfl) (by simp) fun K hK=>?_);simp(disch:=omega) only[kc,ab,Nat.reduceAdd,aq,ao,ah,aj,ac,Value.oneCell',ai,bC];apply hK)
 refine jQ (G:=uu l.length) (fun g=>⟨[.one (.sl 0 0 0 l.length),.raw (.int .u32 (b:Int)),jk,jk,jk,.raw (.int .u64 ((natV (l.drop g.i)%b:Nat):Int)),.raw (.int .i64 ((g.i:Int)-1)),jk,jk,jk,jk,jk,jk,jk,jk,jk,jk,jk,jk,jk,jk,jk,jk,jk,jk,jk,jk,jk,jk,jk,jk,jk,jk,jk,jk,jk],Hm [(0,[⟨118,1,lc fU (xL l b g.i)⟩])]⟩) (fun g=>g.i) ⟨l.length,by omega⟩ ?_ ?_
 ·refine am ⟨?_,trivial⟩ ?_
  ·simp[xL,b9,famH]
  ·simp[cu,bD,bA,natV]
 ·rintro⟨i,hi⟩
  simp only
  by_cases h0:0<i
  ·obtain⟨j,rfl⟩: ∃j,i=j+1:=⟨i-1,by omega⟩
   obtain⟨a,ha⟩:=getElem?_of_lt (l:=l) (k:=j) (by omega)
   have ha':=ct ll ha
   have ej:((j+1:Nat):Int)-1=(j:Int):=by omega
   obtain⟨q1,q2⟩:=Cs (b:=b) rfl (show j<l.length by omega) ha ha' hb
   have hlen:=Cr l b hi
   have hget:(xL l b (j+1))[j]?=some a:=by
    unfold xL
    rw[List.getElem?_append_left (by simp;omega),List.getElem?_take,if_pos (by omega),ha]
   change (xL l b (j+1)).set j _=xL l b j at q1
   have hr:=Nat.mod_lt (natV (l.drop (j+1))) hb
   generalize natV (l.drop (j+1))%b=r at*
   obtain⟨r',hr'⟩: ∃r',r'=natV (l.drop j)%b:=⟨_,rfl⟩
   rw[<- hr']at q2
   have hcast:((natV (l.drop j):Nat):Int)%(b:Int)=(r':Int):=by rw[hr'];simp
   have e1:=oC (a:=r) (s:=32) (by omega) (by omega)
   have e2:=rJ (r*2^32) a (by omega) (by omega)
   rw[l9 r a 32 (by omega),show r*2^32+a=r*4294967296+a from rfl]at e2
   have e3:Int.tdiv ((r*4294967296+a:Nat):Int) (b:Int)=(((r*4294967296+a)/b:Nat):Int):=(Int.ofNat_tdiv _ _).symm
   have e4:Int.tmod ((r*4294967296+a:Nat):Int) (b:Int)=(r':Int):=by rw[<- q2];exact(Int.ofNat_tmod _ _).symm
   have hq:(r*4294967296+a)/b<4294967296:=by
    rw[Nat.div_lt_iff_lt_mul hb]
    have:(r+1)*4294967296<=b*4294967296:=Nat.mul_le_mul_right _ (by omega)
    omega
   generalize(r*4294967296+a)/b=qd at*
   have e5:IntKind.u64.wrap (qd:Int)=(qd:Int):=by rw[IntKind.wrap_u64];omega
   have e6:IntKind.u32.wrap (qd:Int)=(qd:Int):=by rw[IntKind.wrap_u32];omega
   generalize xL l b (j+1)=S at*
   obtain⟨S',hS'⟩: ∃S',S'=xL l b j:=⟨_,rfl⟩
   rw[<- hS']at q1
   (refine cI (bG [] [] (by kernel_rfl) (by simp) fun K hK=>?_);simp(disch:=omega) only[kc,ab,ej,Hm,aj,ac,Value.oneCell',ai,Int.natCast_nonneg,bE];apply hK)
   refine cP rfl (fun _=>ez ?_) (fun h=>by simp at h<;>omega)
   refine cI (fi ?_)
   (refine bG [] [] (by kernel_rfl) (by simp) fun K hK=>?_;simp(disch:=omega) only[kc,ab,Nat.reduceAdd,aj,ac,Value.oneCell',ai,Int.reduceLE,Int.reduceToNat,e1,ag,ao,an,ah,aO,bL,b8,fU,hget,ax,bu,bf,Tryz.underlying118,bP,cS,e2];apply hK)
   (refine bG [] [] (by kernel_rfl) (by simp) fun K hK=>?_;simp(disch:=omega) only[kc,ab,Nat.reduceAdd,bf,aj,Tryz.underlying118,bP,cS,ai,e3,e5,bL,Tryz.underlying88,bZ,e6,ag,ao,an,ah,aO,aB,dr,bN,b8,fU,hget,cellsOf,Nat.le_refl,isPure,putCells,dy,q1,aH,aL];apply hK)
   ((refine eG [] [] (by kernel_rfl) (by simp) fun K hK=>?_);simp(disch:=omega) only[kc,ab,Nat.reduceAdd,bf,aj,Tryz.underlying118,bP,cS,ai,e4,bL];apply hK)
   show ib _ _ _ _ _
   ((refine eG [] [] (by kernel_rfl) (by simp) fun K hK=>?_);simp(disch:=omega) only[kc,ab,Nat.reduceAdd,aj,ac,Value.oneCell',ai,bC];apply hK)
   refine⟨⟨j,by omega⟩,by simp only;omega,am ⟨?_,trivial⟩ ?_⟩
   ·show _=[(⟨_,_,lc fU (xL l b j)⟩:OObj)]
    rw[<- hS'];rfl
   ·simp[cu,bD,bA,hcast]
  ·have hi0:i=0:=by omega
   subst hi0
   have hr:natV l%b<4294967296:=Nat.lt_trans (Nat.mod_lt _ hb) hb'
   have hS:xL l b 0=b9 l.length (natV l/b):=by simp[xL]
   rw[hS,List.drop_zero]
   generalize natV l%b=r at*
   generalize b9 l.length (natV l/b)=S at*
   have e6:IntKind.u32.wrap (r:Int)=(r:Int):=by rw[IntKind.wrap_u32];omega
   (refine cI (bG [] [] (by kernel_rfl) (by simp) fun K hK=>?_);simp(disch:=omega) only[kc,ab,Hm,aj,ac,Value.oneCell',ai,bj];apply hK)
   refine cP rfl (fun h=>by simp at h<;>omega) (fun _=>f5 ?_)
   show ib _ _ _ _ _
   (refine bG [] [] (by kernel_rfl) (by simp) fun K hK=>?_;simp(disch:=omega) only[kc,ab,Nat.reduceAdd,bf,aj,Tryz.underlying88,bZ,e6];apply hK)
   refine se ⟨.inr rfl,_,du.refl _,rfl,rQ _,?_⟩
   simp(disch:=omega) only[bK,Tryz.results146,aN,List.getElem?_cons_succ,List.getElem?_cons_zero]
def ud (l:List Nat) (s i:Nat):List Nat:=(b9 l.length (natV l/2^s)).take i++l.drop i
theorem C5 (l:List Nat) (s:Nat) {i:Nat} (h:i<=l.length):(ud l s i).length=l.length:=by simp[ud,b6];omega
theorem wz {l:List Nat} {s i j a:Nat} (hi:i<=j) (h:l[j]?=some a):(ud l s i)[j]?=some a:=by
 have hj:=(List.getElem?_eq_some_iff.1 h).1
 unfold ud
 have e:((b9 l.length (natV l/2^s)).take i).length=i:=by simp[b6];omega
 rw[List.getElem?_append_right (by omega),e,List.getElem?_drop,show i+(j-i)=j by omega,h]
theorem pR (l:List Nat) (s:Nat) (ll:Lmb l) (hs:s<32) (hl:0<l.length) (bl:l.length<=536870912):
  mR Tryz.prog 150 [.undef,.raw (.int .i64 (s:Int))] 0 0 l.length ⟨118,1,lc fU l⟩ ⟨118,1,lc fU (b9 l.length (natV l/2^s))⟩ (.tup []):=by
 refine oc Tryz.func150 rfl (by kernel_rfl) (by simp) hl (by simp[lc]) (dX _ _) rfl (by simp[lc,b6]) (dX _ _) rfl ?_
 rw[Tryz.ntmps150]
 (refine bG [] [] (by kernel_rfl) (by simp) fun K hK=>?_;simp(disch:=omega) only[kc,ab,Nat.reduceAdd,List.replicate,aq,ao,ah,ac,Value.oneCell'];apply hK)
 refine jQ (G:=uu l.length) (fun g=>⟨[.one (.sl 0 0 0 l.length),.raw (.int .i64 (s:Int)),jk,jk,jk,jk,jk,.raw (.int .i64 (l.length:Int)),.raw (.int .i64 (g.i:Int)),jk,jk,jk,jk,jk,jk,jk,jk,jk,jk,jk,jk,jk,jk,jk,jk,jk,jk,jk,jk,jk,jk,jk,jk,jk,jk,jk,jk,jk],Hm [(0,[⟨118,1,lc fU (ud l s g.i)⟩])]⟩) (fun g=>l.length-g.i) ⟨0,by omega⟩ ?_ ?_
 ·refine am ⟨?_,trivial⟩ ?_
  ·simp[ud,famH]
  ·simp[cu,bD,bA]
 ·rintro⟨i,hi⟩
  simp only
  have hlen:=C5 l s hi
  by_cases hm:i<l.length
  ·obtain⟨a,ha⟩:=getElem?_of_lt hm
   have ha':=ct ll ha
   have hget:=wz (s:=s) (Nat.le_refl i) ha
   have hga:l.getD i 0=a:=by rw[List.getD_eq_getElem?_getD,ha];rfl
   have ei:(i:Int)+1=((i+1:Nat):Int):=by omega
   obtain⟨S',hS'⟩: ∃S',S'=ud l s (i+1):=⟨_,rfl⟩
   by_cases hm2:i+1<l.length
   ·obtain⟨b,hb⟩:=getElem?_of_lt hm2
    have hb':=ct ll hb
    have hget2:=wz (s:=s) (show i<=i+1 by omega) hb
    have hgb:l.getD (i+1) 0=b:=by rw[List.getD_eq_getElem?_getD,hb];rfl
    have hset:=wB (v:=(b*4294967296+a)/2^s%4294967296) ll (show s<=32 by omega) rfl hm (by rw[hga,hgb,Nat.add_comm,Nat.mul_comm])
    change (ud l s i).set i _=ud l s (i+1)at hset
    rw[<- hS']at hset
    have e1:=oC (a:=b) (s:=32) (by omega) (by omega)
    have e2:=rJ a (b*2^32) (by omega) (by omega)
    rw[nr b a 32 (by omega),show b*2^32+a=b*4294967296+a from rfl]at e2
    have e3:=vR (a:=b*4294967296+a) (s:=s) (by omega)
    have e4:=nB ((b*4294967296+a)/2^s)
    generalize(b*4294967296+a)/2^s=qd at*
    generalize ud l s i=S at*
    (refine bG [] [] (by kernel_rfl) (by simp) fun K hK=>?_;simp(disch:=omega) only[kc,ab,Hm,aj,ai,bE];apply hK)
    refine cI (cP rfl (fun _=>ez ?_) (fun h=>by simp at h<;>omega))
    refine cI (fi ?_)
    (refine bG [] [] (by kernel_rfl) (by simp) fun K hK=>?_;simp(disch:=omega) only[kc,ab];apply hK)
    (refine bG [] [] (by kernel_rfl) (by simp) fun K hK=>?_;simp(disch:=omega) only[kc,ab,Nat.reduceAdd,ag,ao,an,ah,aO,bL,b8,fU,hget,ax,bu,bf,aj,Tryz.underlying118,bP,cS];apply hK)
    (refine cI (bG [] [] (by kernel_rfl) (by simp) fun K hK=>?_);simp(disch:=omega) only[kc,ab,Nat.reduceAdd,aj,ac,Value.oneCell',ai,ei,bC,aq,ao,ah,bE];apply hK)
    refine cP rfl (fun _=>?_) (fun h=>by simp at h<;>omega)
    ((refine eG [] [] (by kernel_rfl) (by simp) fun K hK=>?_);simp(disch:=omega) only[kc,ab,Nat.reduceAdd,aj,ac,Value.oneCell',ai,ei,bC,ag,ao,an,ah,aO,bL,b8,fU,hget2,ax,bu,bf,Tryz.underlying118,bP,cS,Int.reduceLE,Int.reduceToNat,e1,e2];apply hK)
    show ib _ _ _ _ _
    ((refine eG [] [] (by kernel_rfl) (by simp) fun K hK=>?_);simp(disch:=omega) only[kc,ab,Nat.reduceAdd,aj,ai,Int.natCast_nonneg,e3,bf,Tryz.underlying88,bZ,e4,ag,ao,an,ah,aO,bL,aB,dr,bN,b8,fU,hget,cellsOf,Nat.le_refl,isPure,putCells,dy,hset,aH,aL];apply hK)
    show ib _ _ _ _ _
    ((refine eG [] [] (by kernel_rfl) (by simp) fun K hK=>?_);simp(disch:=omega) only[kc,ab,aj,ac,Value.oneCell',ai,bC];apply hK)
    refine⟨⟨i+1,by omega⟩,by simp only;omega,am ⟨?_,trivial⟩ ?_⟩
    ·show _=[(⟨_,_,lc fU (ud l s (i+1))⟩:OObj)]
     rw[<- hS'];rfl
    ·simp[cu,bD,bA]
   ·have hgb:l.getD (i+1) 0=0:=by rw[List.getD_eq_getElem?_getD,List.getElem?_eq_none (by omega)];rfl
    have hset:=wB (v:=a/2^s%4294967296) ll (show s<=32 by omega) rfl hm (by rw[hga,hgb];rfl)
    change (ud l s i).set i _=ud l s (i+1)at hset
    rw[<- hS']at hset
    have e3:=vR (a:=a) (s:=s) (by omega)
    have e4:=nB (a/2^s)
    generalize a/2^s=qd at*
    generalize ud l s i=S at*
    (refine bG [] [] (by kernel_rfl) (by simp) fun K hK=>?_;simp(disch:=omega) only[kc,ab,Hm,aj,ai,bE];apply hK)
    refine cI (cP rfl (fun _=>ez ?_) (fun h=>by simp at h<;>omega))
    refine cI (fi ?_)
    (refine bG [] [] (by kernel_rfl) (by simp) fun K hK=>?_;simp(disch:=omega) only[kc,ab];apply hK)
    (refine bG [] [] (by kernel_rfl) (by simp) fun K hK=>?_;simp(disch:=omega) only[kc,ab,Nat.reduceAdd,ag,ao,an,ah,aO,bL,b8,fU,hget,ax,bu,bf,aj,Tryz.underlying118,bP,cS];apply hK)
    (refine cI (bG [] [] (by kernel_rfl) (by simp) fun K hK=>?_);simp(disch:=omega) only[kc,ab,Nat.reduceAdd,aj,ac,Value.oneCell',ai,ei,bC,aq,ao,ah,bj];apply hK)
    refine cP rfl (fun h=>by simp at h<;>omega) (fun _=>ez ?_)
    show ib _ _ _ _ _
    ((refine eG [] [] (by kernel_rfl) (by simp) fun K hK=>?_);simp(disch:=omega) only[kc,ab,Nat.reduceAdd,aj,ai,Int.natCast_nonneg,e3,bf,Tryz.underlying88,bZ,e4,ag,ao,an,ah,aO,bL,aB,dr,bN,b8,fU,hget,cellsOf,Nat.le_refl,isPure,putCells,dy,hset,aH,aL];apply hK)
    show ib _ _ _ _ _
    ((refine eG [] [] (by kernel_rfl) (by simp) fun K hK=>?_);simp(disch:=omega) only[kc,ab,aj,ac,Value.oneCell',ai,bC];apply hK)
    refine⟨⟨i+1,by omega⟩,by simp only;omega,am ⟨?_,trivial⟩ ?_⟩
    ·show _=[(⟨_,_,lc fU (ud l s (i+1))⟩:OObj)]
     rw[<- hS'];rfl
    ·simp[cu,bD,bA]
  ·have hie:i=l.length:=by omega
   subst hie
   have hS:ud l s l.length=b9 l.length (natV l/2^s):=by
    unfold ud
    rw[List.drop_length,List.append_nil,List.take_of_length_le (by rw[b6];exact Nat.le_refl _)]
   rw[hS]
   generalize b9 l.length (natV l/2^s)=S at*
   (refine bG [] [] (by kernel_rfl) (by simp) fun K hK=>?_;simp(disch:=omega) only[kc,ab,Hm,aj,ai,bj];apply hK)
   refine cI (cP rfl (fun h=>by simp at h<;>omega) (fun _=>f5 ?_))
   refine⟨.inl rfl,_,du.refl _,rfl,rQ _,?_⟩
   simp(disch:=omega) only[bK,Tryz.results150,dc,Option.map_some]
section
theorem xB {l:List Nat} {n x y:Nat} (hn:l.length=n+2) (hx:l[n+1]?=some x) (hy:l[n]?=some y):natV l=(x*4294967296+y)*4294967296^n+natV (l.take n):=by
 have h1:=bS hx
 have h2:=bS hy
 rw[List.take_of_length_le (by omega)]at h1
 rw[h1,h2,Nat.pow_succ];grind
theorem yW {l:List Nat} {n x y z:Nat} (hn:l.length=n+3) (hx:l[n+2]?=some x) (hy:l[n+1]?=some y) (hz:l[n]?=some z):natV l=((x*4294967296+y)*4294967296+z)*4294967296^n+natV (l.take n):=by
 have h1:=bS hx
 have h2:=bS hy
 have h3:=bS hz
 rw[List.take_of_length_le (by omega)]at h1
 rw[h1,h2,h3,Nat.pow_succ,Nat.pow_succ];grind
structure pO (u v:List Nat) (n v1 v2 u2 u1 u0:Nat):Prop where
 lu:Lmb u
 lv:Lmb v
 nu:u.length=n+3
 nv:v.length=n+2
 hv1:v[n+1]?=some v1
 hv2:v[n]?=some v2
 hu2:u[n+2]?=some u2
 hu1:u[n+1]?=some u1
 hu0:u[n]?=some u0
 top:2147483648<=v1
 lt:natV u<natV v*4294967296
section
variable {u v:List Nat} {n v1 v2 u2 u1 u0:Nat} (h:pO u v n v1 v2 u2 u1 u0)
include h
theorem pO.vpos:0<natV v:=by
 have:=h.lt
 by_cases hv:natV v=0
 ·rw[hv]at this;omega
 ·omega
theorem pO.bv1:v1<4294967296:=ct h.lv h.hv1
theorem pO.bv2:v2<4294967296:=ct h.lv h.hv2
theorem pO.bu2:u2<4294967296:=ct h.lu h.hu2
theorem pO.bu1:u1<4294967296:=ct h.lu h.hu1
theorem pO.bu0:u0<4294967296:=ct h.lu h.hu0
theorem pO.eV:natV v=(v1*4294967296+v2)*4294967296^n+natV (v.take n):=xB h.nv h.hv1 h.hv2
theorem pO.eU:natV u=((u2*4294967296+u1)*4294967296+u0)*4294967296^n+natV (u.take n):=yW h.nu h.hu2 h.hu1 h.hu0
theorem pO.vl:natV (v.take n)<4294967296^n:=d6 h.lv n
theorem pO.ul:natV (u.take n)<4294967296^n:=d6 h.lu n
theorem pO.q_lt:natV u/natV v<4294967296:=by
 rw[Nat.div_lt_iff_lt_mul h.vpos,Nat.mul_comm];exact h.lt
theorem pO.u2_le : u2 <= v1 := by
  have e1 := h.eV
  have e2 := h.eU
  have h1 := h.lt
  have h2 := h.vl
  have h3 := h.bv2
  have hL : 0 < 4294967296 ^ n := Nat.pow_pos (by omega)
  generalize 4294967296 ^ n = L at *
  by_cases hc : u2 <= v1
  · exact hc
  · exfalso
    have h4 : (v1 + 1) * 4294967296 * 4294967296 * L <= natV u := by
      rw [e2]
      have : (v1 + 1) * 4294967296 * 4294967296 * L <= ((u2 * 4294967296 + u1) * 4294967296 + u0) * L := Nat.mul_le_mul_right _ (Nat.le_trans (Nat.mul_le_mul_right _ (Nat.le_trans (Nat.mul_le_mul_right _ (show v1 + 1 <= u2 by omega)) (Nat.le_add_right _ _))) (Nat.le_add_right _ _))
      exact Nat.le_trans this (Nat.le_add_right _ _)
    have h5 : natV v * 4294967296 <= (v1 + 1) * 4294967296 * 4294967296 * L := by
      have h6 : natV v <= (v1 + 1) * 4294967296 * L := by
        rw [e1]
        have : (v1 * 4294967296 + v2) * L + L <= (v1 + 1) * 4294967296 * L := by
          have := Nat.mul_le_mul_right L (show v1 * 4294967296 + v2 + 1 <= (v1 + 1) * 4294967296 by omega)
          rw [Nat.add_mul (v1 * 4294967296 + v2) 1 L, Nat.one_mul] at this
          exact this
        omega
      calc natV v * 4294967296 <= (v1 + 1) * 4294967296 * L * 4294967296 := Nat.mul_le_mul_right _ h6
        _ = _ := by grind
    omega
structure E4 (u v:List Nat) (v1 high:Nat) where
 g:Nat
 r:Nat
 eq:g*v1+r=high
 ge:natV u/natV v<=g
 le:g<=4294967297
 hr:r<4294967296
omit h in
theorem yx {a b c:Nat} (hb:0<b) (h:a<(c+1)*b):a/b<=c:=by
 have:=(Nat.div_lt_iff_lt_mul hb).2 h
 omega
theorem pO.first: ∃k:E4 u v v1 (u2*4294967296+u1),k.g=(u2*4294967296+u1)/v1/\k.r=(u2*4294967296+u1)%v1:=by
 have ht:=h.top
 have hb1:=h.bv1
 have hm:=Nat.mod_lt (u2*4294967296+u1) (show 0<v1 by omega)
 have hd:=Nat.div_add_mod (u2*4294967296+u1) v1
 have hle:=h.u2_le
 have hu1:=h.bu1
 have hL:0<4294967296^n:=Nat.pow_pos (by omega)
 refine⟨⟨(u2*4294967296+u1)/v1,(u2*4294967296+u1)%v1,by rw[Nat.mul_comm];exact hd,?_,?_,by omega⟩,rfl,rfl⟩
 ·rw[Nat.le_div_iff_mul_le (by omega)]
  have e1:=h.eV
  have e2:=h.eU
  have h1:=h.ul
  have h2:=h.bu0
  refine EN (U:=natV u) (V:=natV v) (L:=4294967296^n) ?_ ?_ (Nat.div_mul_le_self _ _) hL
  ·rw[e1]
   have:v1*4294967296*4294967296^n<=(v1*4294967296+v2)*4294967296^n:=Nat.mul_le_mul_right _ (by omega)
   omega
  ·rw[e2]
   have:((u2*4294967296+u1)*4294967296+u0)*4294967296^n+4294967296^n<=(u2*4294967296+u1+1)*4294967296*4294967296^n:=by
    have:=Nat.mul_le_mul_right (4294967296^n) (show(u2*4294967296+u1)*4294967296+u0+1<=(u2*4294967296+u1+1)*4294967296 by omega)
    rw[Nat.add_mul ((u2*4294967296+u1)*4294967296+u0) 1,Nat.one_mul]at this
    exact this
   omega
 ·refine yx (by omega) ?_
  have:u2*4294967296<=v1*4294967296:=Nat.mul_le_mul_right _ hle
  have e:(4294967297+1)*v1=v1*4294967296+2*v1:=by omega
  omega
theorem pO.down (k:E4 u v v1 (u2*4294967296+u1)) (hc:4294967296<=k.g\/k.r*4294967296+u0<k.g*v2):natV u/natV v<k.g:=by
 rcases hc with hc|hc
 ·have:=h.q_lt;omega
 ·have e1:=h.eV
  have e2:=h.eU
  have h1:=h.ul
  refine E3 (U:=natV u) (V:=natV v) (L:=4294967296^n) (high:=u2*4294967296+u1) ?_ ?_ (Nat.div_mul_le_self _ _) k.eq hc
  ·rw[e1];omega
  ·rw[e2,Nat.add_mul ((u2*4294967296+u1)*4294967296+u0) 1,Nat.one_mul];omega
theorem pO.near {g r:Nat} (heq:g*v1+r=u2*4294967296+u1) (hB:g<=4294967296) (hc:g*v2<=r*4294967296+u0):g<=natV u/natV v+1:=by
 have e1:=h.eV
 have e2:=h.eU
 have ht:=h.top
 refine B7 (U:=natV u) (t3:=(u2*4294967296+u1)*4294967296+u0) e1 h.vl ?_ ?_ ?_ hB (by omega)
 ·rw[e2];omega
 ·have:=Nat.lt_div_mul_add (a:=natV u) h.vpos
  rw[Nat.add_mul,Nat.one_mul];omega
 ·rw[<- heq]
  have e:g*(v1*4294967296+v2)=g*v1*4294967296+g*v2:=by grind
  have e':(g*v1+r)*4294967296=g*v1*4294967296+r*4294967296:=by grind
  omega
theorem pO.vlt:natV v<=4294967296^(n+2):=Nat.le_of_lt (by have:=eO h.lv;rw[h.nv]at this;exact this)
theorem pO.right {g:Nat} (m:BN u v g) (hi:m.i=n+2) (hge:natV u/natV v<=g) (hno:m.c+m.b<=u2):g=natV u/natV v/\m.us++[u2-(m.c+m.b)]=b9 (n+3) (natV u%natV v):=by
 have hv:=m.val
 rw[hi,List.take_of_length_le (by rw[h.nv];exact Nat.le_refl _)]at hv
 have hU:=bS h.hu2
 rw[List.take_of_length_le (by rw[h.nu];exact Nat.le_refl _)]at hU
 have hml:m.us.length=n+2:=by rw[m.len,hi]
 have e:natV (m.us++[u2-(m.c+m.b)])+g*natV v=natV u:=by
  rw[ka,hml,hU]
  have:(u2-(m.c+m.b))*4294967296^(n+2)+(m.c+m.b)*4294967296^(n+2)=u2*4294967296^(n+2):=by
   rw[<- Nat.add_mul,Nat.sub_add_cancel hno]
  omega
 obtain⟨q1,q2⟩:=Bk rfl hge e h.vpos
 refine⟨q1,ue (jM m.lmb ?_) (by simp[hml]) q2⟩
 have:=h.bu2
 omega
theorem pO.left {g t:Nat} (m:BN u v g) (hi:m.i=n+2) (hle:g<=natV u/natV v+1) (hyes:u2<m.c+m.b) (ht:t=u2+4294967296-(m.c+m.b)) (a:Di (m.us++[t]) v) (hai:a.i=n+2):
  g=natV u/natV v+1/\a.us++[(t+a.c)%4294967296]=b9 (n+3) (natV u%natV v):=by
 have hv:=m.val
 rw[hi,List.take_of_length_le (by rw[h.nv];exact Nat.le_refl _)]at hv
 have hU:=bS h.hu2
 rw[List.take_of_length_le (by rw[h.nu];exact Nat.le_refl _)]at hU
 have hml:m.us.length=n+2:=by rw[m.len,hi]
 have hbu:=h.bu2
 have hmc:=m.hc
 have hmb:=m.hb
 have hav:=a.val
 have e0:(m.us++[t]).take (n+2)=m.us:=by rw[List.take_append_of_le_length (by omega),List.take_of_length_le (by omega)]
 rw[hai,e0,List.take_of_length_le (by rw[h.nv];exact Nat.le_refl _)]at hav
 have hW:=eO a.lmb
 rw[a.len,hai]at hW
 have e:natV m.us+t*4294967296^(n+2)+g*natV v=natV u+4294967296*4294967296^(n+2):=by
  rw[hU]
  have:t*4294967296^(n+2)+(m.c+m.b)*4294967296^(n+2)=(u2+4294967296)*4294967296^(n+2):=by
   rw[<- Nat.add_mul,ht,Nat.sub_add_cancel (by omega)]
  rw[Nat.add_mul u2]at this
  omega
 have hlt:natV u<g*natV v:=by
  have h1:=eO m.lmb
  rw[hml]at h1
  have h2:(u2+1)*4294967296^(n+2)<=(m.c+m.b)*4294967296^(n+2):=Nat.mul_le_mul_right _ (by omega)
  rw[Nat.add_mul u2 1,Nat.one_mul]at h2
  omega
 obtain⟨q1,q2,q3⟩:=De (T:=natV m.us) (t:=t) (c:=a.c) (W:=natV a.us) (Bn:=4294967296^(n+2)) rfl hle e hlt h.vpos h.vlt hW rfl hav a.hc (by omega)
 refine⟨q1,ue (jM a.lmb (Nat.mod_lt _ (by omega))) (by simp[a.len,hai]) ?_⟩
 rw[ka,q2,q3];simp
end
end
theorem i4 {pre u post:List Nat} {off i x:Nat} (hp:pre.length=off) (h:u[i]?=some x):(pre++(u++post))[off+i]?=some x:=by
 have hi:=(List.getElem?_eq_some_iff.1 h).1
 rw[List.getElem?_append_right (by omega),hp,Nat.add_sub_cancel_left,List.getElem?_append_left hi,h]
theorem nA {pre u post:List Nat} {off i:Nat} (v:Nat) (hp:pre.length=off) (hi:i<u.length):(pre++(u++post)).set (off+i) v=pre++(u.set i v++post):=by
 rw[List.set_append_right _ _ (by omega),hp,Nat.add_sub_cancel_left,List.set_append_left _ _ hi]
theorem nK {us u:List Nat} {i:Nat} (v:Nat) (hus:us.length=i) (hi:i<u.length):(us++u.drop i).set i v=(us++[v])++u.drop (i+1):=by
 have hd:u.drop i=u[i]::u.drop (i+1):=List.drop_eq_getElem_cons hi
 rw[hd,List.set_append_right _ _ (by omega),hus,Nat.sub_self,List.set_cons_zero,List.append_assoc];rfl
theorem rz {us u:List Nat} {i x:Nat} (hus:us.length=i) (hx:u[i]?=some x):(us++u.drop i)[i]?=some x:=by
 rw[List.getElem?_append_right (by omega),hus,Nat.sub_self,List.getElem?_drop,Nat.add_zero,hx]
theorem rV {us u:List Nat} {i:Nat} (hus:us.length=i) (hi:i<=u.length):(us++u.drop i).length=u.length:=by
 rw[List.length_append,hus,List.length_drop];omega
theorem z7 {P:Program} {k:Nat} {c z:Code} {Q:Exit->AS->Prop} {s:AS} (S:Nat->AS) (p:Nat->Prop) (h1:ib P k c (jm (fun s'=> ∃g,p g/\du s' (S g)) Q) s) (h2: ∀g,p g->ib P k z Q (S g)):ib P k c (jm (ib P k z Q) Q) s:=h1.mono fun e s' h=>by
 cases e with
 |normal=>obtain⟨g,hp,hw⟩:=h;exact(h2 g hp).weak hw
 |_=>exact h
theorem Fs (y lo b:Nat) (hy:y<4294967296) (hlo:lo<4294967296) (hb:b<=1):IntKind.u32.wrap (IntKind.u64.wrap (IntKind.u64.wrap ((y:Int)-(lo:Int))-(b:Int)))=(((y+8589934592-(lo+b))%4294967296:Nat):Int)/\
  Int.fdiv (IntKind.u64.wrap (IntKind.u64.wrap ((y:Int)-(lo:Int))-(b:Int))) (2^(min 63 IntKind.u64.bits))=(((if y<lo+b then 1 else 0):Nat):Int):=by
 constructor
 ·rw[IntKind.wrap_u32,IntKind.wrap_u64,IntKind.wrap_u64];omega
 ·rw[IntKind.wrap_u64,IntKind.wrap_u64]
  show Int.fdiv _ 9223372036854775808=_
  rw[Int.fdiv_eq_ediv_of_nonneg _ (by omega)]
  split<;>omega
theorem pL (pre u post v:List Nat) (off n v1 v2 u2 u1 u0:Nat) (hp:pre.length=off) (H:pO u v n v1 v2 u2 u1 u0) (bR:(pre++(u++post)).length<=536870912):
  mR Tryz.prog 149 [.undef,bO v] 0 off (n+3) ⟨118,1,lc fU (pre++(u++post))⟩ ⟨118,1,lc fU (pre++(b9 (n+3) (natV u%natV v)++post))⟩ (.raw (.int .u32 ((natV u/natV v:Nat):Int))):=by
 have nu:=H.nu
 have nv:=H.nv
 have hv1:=H.hv1
 have hv2:=H.hv2
 have bv1:=H.bv1
 have bv2:=H.bv2
 have bu2:=H.bu2
 have bu1:=H.bu1
 have bu0:=H.bu0
 have top:=H.top
 have hqlt:=H.q_lt
 have hRl:(pre++(u++post)).length=off+(n+3)+post.length:=by simp[hp,nu];omega
 have gu2:=i4 (post:=post) hp H.hu2
 have gu1:=i4 (post:=post) hp H.hu1
 have gu0:=i4 (post:=post) hp H.hu0
 refine oc Tryz.func149 rfl (by kernel_rfl) (by simp) (by omega) (by simp[lc]at hRl⊢;omega) (dX _ _) rfl (by simp[lc,b6,nu]) (dX _ _) rfl ?_
 rw[Tryz.ntmps149]
 have e2:((n+2:Nat):Int)-1=((n+1:Nat):Int):=by omega
 have e3:((n+2:Nat):Int)-2=((n:Nat):Int):=by omega
 (refine bG [] [] (by kernel_rfl) (by simp) fun K hK=>?_;simp(disch:=omega) only[kc,ab,bO,Nat.reduceAdd,List.replicate,ac,Value.oneCell'];apply hK)
 (refine bG [] [] (by kernel_rfl) (by simp) fun K hK=>?_;simp(disch:=omega) only[kc,ab,Nat.reduceAdd,aq,ao,ah,aD,nv];apply hK)
 have a1:=oC (a:=u2) (s:=32) (by omega) (by omega)
 have a2:=rJ (u2*2^32) u1 (by omega) (by omega)
 rw[l9 u2 u1 32 (by omega),show u2*2^32+u1=u2*4294967296+u1 from rfl]at a2
 obtain⟨high,hhigh⟩: ∃high,high=u2*4294967296+u1:=⟨_,rfl⟩
 rw[<- hhigh]at a2
 obtain⟨k0,hk1,hk2⟩: ∃k:E4 u v v1 high,k.g=high/v1/\k.r=high%v1:=by rw[hhigh];exact H.first
 have hk3:=k0.le
 have a3:Int.tdiv (high:Int) (v1:Int)=(k0.g:Int):=by rw[hk1];exact(Int.ofNat_tdiv _ _).symm
 have a4:Int.tmod (high:Int) (v1:Int)=(k0.r:Int):=by rw[hk2];exact(Int.ofNat_tmod _ _).symm
 generalize hR:pre++(u++post)=R at*
 (refine gp bU [] [] (by kernel_rfl) (by kernel_rfl) (by simp) fun K hK=>?_;simp(disch:=omega) only[kc,ab,Nat.reduceAdd,ag,ao,an,ah,famH,aO,bL,b8,fU,gu2,ax,bu,bf,aj,Tryz.underlying118,bP,cS,ac,Value.oneCell',ai,Int.reduceLE,Int.reduceToNat,a1,e2,bC,gu1,a2];apply hK)
 (refine gp bU [] [] (by kernel_rfl) (by kernel_rfl) (by simp) fun K hK=>?_;simp(disch:=omega) only[kc,ab,Nat.reduceAdd,aj,ac,Value.oneCell',ai,e2,bC,ag,ao,an,ah,bI,hv1,fU,aO,ax,bu,bf,Tryz.underlying118,bP,cS,a3,bL,a4];apply hK)
 refine cI (z7 (fun g=>⟨[.one (.sl 0 0 off (n+3)),bO v,jk,jk,jk,.raw (.int .i64 ((n+2:Nat):Int)),jk,.raw (.int .u64 (g:Int)),jk,jk,jk,jk,jk,jk,jk,jk,jk,jk,jk,jk,jk,jk,jk,jk,jk,jk,jk,jk,jk,jk,jk,jk,jk,jk,jk,jk,jk,jk,jk,jk,jk,jk,jk,jk,jk,jk,jk,jk,jk,jk,jk,jk,jk,jk,jk,jk,jk,jk,jk,jk,jk,jk,jk,jk,jk,jk,jk,jk,jk,jk,jk,jk,jk,jk,jk,jk,jk,jk,jk,jk,jk,jk,jk,jk,jk,jk,jk,jk,jk,jk,jk,jk,jk,jk,jk,jk,jk,jk,jk,jk,jk,jk,jk,jk,jk,jk,jk,jk,jk,jk,jk,jk,jk,jk,jk,jk,jk,jk,jk,jk,jk,jk,jk,jk,jk,jk,jk,jk,jk,jk,jk,jk,jk,jk,jk,jk,jk,jk,jk,jk,jk,jk,jk,jk,jk,jk,jk,jk,jk,jk,jk,jk,jk,jk,jk,jk,jk,jk,jk,jk,jk,jk,jk,jk,jk,jk,jk,jk,jk,jk,jk],Hm [(0,[⟨118,1,lc fU R⟩])]⟩) (fun g=>natV u/natV v<=g/\g<=natV u/natV v+1/\g<=4294967296) ?_ ?_)
 ·have H2:=H
  subst hhigh
  refine jQ (G:=E4 u v v1 (u2*4294967296+u1)) (fun k=>⟨[.one (.sl 0 0 off (n+3)),bO v,jk,jk,jk,.raw (.int .i64 ((n+2:Nat):Int)),jk,.raw (.int .u64 (k.g:Int)),.raw (.int .u64 (k.r:Int)),jk,jk,jk,jk,jk,jk,jk,jk,jk,jk,jk,jk,jk,jk,jk,jk,jk,jk,jk,jk,jk,jk,jk,jk,jk,jk,jk,jk,jk,jk,jk,jk,jk,jk,jk,jk,jk,jk,jk,jk,jk,jk,jk,jk,jk,jk,jk,jk,jk,jk,jk,jk,jk,jk,jk,jk,jk,jk,jk,jk,jk,jk,jk,jk,jk,jk,jk,jk,jk,jk,jk,jk,jk,jk,jk,jk,jk,jk,jk,jk,jk,jk,jk,jk,jk,jk,jk,jk,jk,jk,jk,jk,jk,jk,jk,jk,jk,jk,jk,jk,jk,jk,jk,jk,jk,jk,jk,jk,jk,jk,jk,jk,jk,jk,jk,jk,jk,jk,jk,jk,jk,jk,jk,jk,jk,jk,jk,jk,jk,jk,jk,jk,jk,jk,jk,jk,jk,jk,jk,jk,jk,jk,jk,jk,jk,jk,jk,jk,jk,jk,jk,jk,jk,jk,jk,jk,jk,jk,jk,jk,jk,jk],Hm [(0,[⟨118,1,lc fU R⟩])]⟩) (fun k=>k.g) k0 ?_ ?_
  ·refine am ⟨rfl,trivial⟩ ?_
   simp[cu,bD,bA]
  ·intro k
   have kg:=k.le
   have kr:=k.hr
   have keq:=k.eq
   have kge:=k.ge
   have e5:=ya k.g
   -- the guess goes down
   have down:(4294967296<=k.g\/k.r*4294967296+u0<k.g*v2)->natV u/natV v<k.g:=H2.down k
   have next:natV u/natV v<k.g->k.r+v1<4294967296-> ∃k':E4 u v v1 (u2*4294967296+u1),k'.g=k.g-1/\k'.r=k.r+v1:=fun h1 h2=>by
    refine⟨⟨k.g-1,k.r+v1,?_,by omega,by omega,h2⟩,rfl,rfl⟩
    refine Eq.trans ?_ keq
    have:k.g*v1=(k.g-1)*v1+v1:=by
     obtain⟨m,hm⟩: ∃m,k.g=m+1:=⟨k.g-1,(Nat.succ_pred_eq_of_pos (Nat.lt_of_le_of_lt (Nat.zero_le _) h1)).symm⟩
     rw[hm,Nat.add_sub_cancel,Nat.add_mul,Nat.one_mul]
    omega
   have stop:natV u/natV v<k.g->4294967296<=k.r+v1->natV u/natV v<=k.g-1/\k.g-1<=natV u/natV v+1/\k.g-1<=4294967296:=fun h1 h2=>by
    refine⟨by omega,?_,by omega⟩
    refine H2.near (r:=k.r+v1) ?_ (by omega) ?_
    ·refine Eq.trans ?_ keq
     have:k.g*v1=(k.g-1)*v1+v1:=by
      obtain⟨m,hm⟩: ∃m,k.g=m+1:=⟨k.g-1,(Nat.succ_pred_eq_of_pos (Nat.lt_of_le_of_lt (Nat.zero_le _) h1)).symm⟩
      rw[hm,Nat.add_sub_cancel,Nat.add_mul,Nat.one_mul]
     omega
    ·have h3:(k.g-1)*v2<=4294967296*4294967295:=Nat.mul_le_mul (by omega) (by omega)
     have h4:4294967296*4294967296<=(k.r+v1)*4294967296:=Nat.mul_le_mul_right _ h2
     omega
   have e7:(k.g:Int)-1=((k.g-1:Nat):Int)\/k.g=0:=by omega
   have e8:(k.r:Int)+(v1:Int)=((k.r+v1:Nat):Int):=by omega
   have e9:=ya (k.r+v1)
   by_cases hbig:4294967296<=k.g
   ·have hd:=down (.inl hbig)
    replace e7:=e7.resolve_right (by omega)
    (refine cI (gp bU [] [] (by kernel_rfl) (by kernel_rfl) (by simp) fun K hK=>?_);simp(disch:=omega) only[kc,ab,Nat.reduceAdd,bO,Hm,aj,ac,Value.oneCell',ai,Int.reduceLE,Int.reduceToNat,e5,bj,Bool.not_false,aA,reduceCtorEq,Option.map_none,ag,ao,bf,Tryz.underlying118,bP,aM];apply hK)
    refine cP rfl (fun _=>ez ?_) (fun h=>by simp at h<;>omega)
    refine fi ?_
    (refine bG [] [] (by kernel_rfl) (by simp) fun K hK=>?_;simp(disch:=omega) only[kc,ab,Nat.reduceAdd,aj,ac,Value.oneCell',ai,e7,cS];apply hK)
    (refine bG [] [] (by kernel_rfl) (by simp) fun K hK=>?_;simp(disch:=omega) only[kc,ab,Nat.reduceAdd,aj,ac,Value.oneCell',ai,e2,bC,ag,ao,an,ah,bI,hv1,fU,aO,ax,bu,bf,Tryz.underlying118,bP,cS,e8];apply hK)
    by_cases hover:4294967296<=k.r+v1
    ·(refine bG [] [] (by kernel_rfl) (by simp) fun K hK=>?_;simp(disch:=omega) only[kc,ab,Nat.reduceAdd,aj,ac,Value.oneCell',ai,Int.reduceLE,Int.reduceToNat,e9,bj,Bool.not_false];apply hK)
     refine cP rfl (fun _=>f5 ?_) (fun h=>by simp at h<;>omega)
     refine⟨k.g-1,stop hd hover,am ⟨rfl,trivial⟩ ?_⟩
     simp[cu,bD,bA]
    ·obtain⟨k',q1,q2⟩:=next hd (by omega)
     (refine bG [] [] (by kernel_rfl) (by simp) fun K hK=>?_;simp(disch:=omega) only[kc,ab,Nat.reduceAdd,aj,ac,Value.oneCell',ai,Int.reduceLE,Int.reduceToNat,e9,bE];apply hK)
     refine cP rfl (fun h=>by simp at h<;>omega) (fun _=>ez ?_)
     refine⟨k',by omega,am ⟨rfl,trivial⟩ ?_⟩
     simp[cu,bD,bA,q1,q2]
   ·have hmul:k.g*v2<=4294967295*4294967295:=Nat.mul_le_mul (by omega) (by omega)
    have e10:(k.g:Int)*(v2:Int)=((k.g*v2:Nat):Int):=by simp
    have e11:=oC (a:=k.r) (s:=32) (by omega) (by omega)
    have e12:=rJ (k.r*2^32) u0 (by omega) (by omega)
    rw[l9 k.r u0 32 (by omega),show k.r*2^32+u0=k.r*4294967296+u0 from rfl]at e12
    by_cases hc:k.r*4294967296+u0<k.g*v2
    ·have hd:=down (.inr hc)
     replace e7:=e7.resolve_right (fun e=>by rw[e]at hd;exact absurd hd (Nat.not_lt_zero _))
     generalize k.g*v2=gv at*
     (refine cI (gp bU [] [] (by kernel_rfl) (by kernel_rfl) (by simp) fun K hK=>?_);simp(disch:=omega) only[kc,ab,Nat.reduceAdd,bO,Hm,aj,ac,Value.oneCell',ai,Int.reduceLE,Int.reduceToNat,e5,bE,aA,bL,e3,bC,ag,ao,an,ah,bI,hv2,fU,aO,ax,bu,bf,Tryz.underlying118,bP,cS,e10,e11,b8,gu0,e12,aM];apply hK)
     refine cP rfl (fun _=>ez ?_) (fun h=>by simp at h<;>omega)
     refine fi ?_
     (refine bG [] [] (by kernel_rfl) (by simp) fun K hK=>?_;simp(disch:=omega) only[kc,ab,Nat.reduceAdd,aj,ac,Value.oneCell',ai,e7,cS];apply hK)
     (refine bG [] [] (by kernel_rfl) (by simp) fun K hK=>?_;simp(disch:=omega) only[kc,ab,Nat.reduceAdd,aj,ac,Value.oneCell',ai,e2,bC,ag,ao,an,ah,bI,hv1,fU,aO,ax,bu,bf,Tryz.underlying118,bP,cS,e8];apply hK)
     by_cases hover:4294967296<=k.r+v1
     ·(refine bG [] [] (by kernel_rfl) (by simp) fun K hK=>?_;simp(disch:=omega) only[kc,ab,Nat.reduceAdd,aj,ac,Value.oneCell',ai,Int.reduceLE,Int.reduceToNat,e9,bj,Bool.not_false];apply hK)
      refine cP rfl (fun _=>f5 ?_) (fun h=>by simp at h<;>omega)
      refine⟨k.g-1,stop hd hover,am ⟨rfl,trivial⟩ ?_⟩
      simp[cu,bD,bA]
     ·obtain⟨k',q1,q2⟩:=next hd (by omega)
      (refine bG [] [] (by kernel_rfl) (by simp) fun K hK=>?_;simp(disch:=omega) only[kc,ab,Nat.reduceAdd,aj,ac,Value.oneCell',ai,Int.reduceLE,Int.reduceToNat,e9,bE];apply hK)
      refine cP rfl (fun h=>by simp at h<;>omega) (fun _=>ez ?_)
      refine⟨k',by omega,am ⟨rfl,trivial⟩ ?_⟩
      simp[cu,bD,bA,q1,q2]
    ·have hnear:=H2.near keq (by omega) (Nat.le_of_not_lt hc)
     generalize k.g*v2=gv at*
     (refine cI (gp bU [] [] (by kernel_rfl) (by kernel_rfl) (by simp) fun K hK=>?_);simp(disch:=omega) only[kc,ab,Nat.reduceAdd,bO,Hm,aj,ac,Value.oneCell',ai,Int.reduceLE,Int.reduceToNat,e5,bE,aA,bL,e3,bC,ag,ao,an,ah,bI,hv2,fU,aO,ax,bu,bf,Tryz.underlying118,bP,cS,e10,e11,b8,gu0,e12,bj,aM];apply hK)
     refine cP rfl (fun h=>by simp at h<;>omega) (fun _=>f5 ?_)
     refine⟨k.g,⟨kge,hnear,by omega⟩,am ⟨rfl,trivial⟩ ?_⟩
     simp[cu,bD,bA]
 ·rintro g ⟨hg1,hg2,hg3⟩
  subst hR
  clear gu2 gu1 gu0 a1 a2 a3 a4 hk1 hk2 hk3 k0
  (refine bG [] [] (by kernel_rfl) (by simp) fun K hK=>?_;simp(disch:=omega) only[kc,ab,bO,Hm,ac,Value.oneCell'];apply hK)
  (refine cI (bG [] [] (by kernel_rfl) (by simp) fun K hK=>?_);simp(disch:=omega) only[kc,ab,ac,Value.oneCell'];apply hK)
  refine jQ (G:=BN u v g) (fun m=>⟨[.one (.sl 0 0 off (n+3)),bO v,jk,jk,jk,.raw (.int .i64 ((n+2:Nat):Int)),jk,.raw (.int .u64 (g:Int)),jk,.raw (.int .u64 (m.c:Int)),.raw (.int .u64 (m.b:Int)),jk,jk,jk,jk,jk,jk,jk,jk,jk,jk,jk,jk,jk,jk,jk,jk,jk,jk,jk,jk,jk,jk,jk,jk,jk,jk,jk,jk,jk,jk,jk,jk,jk,jk,jk,jk,jk,jk,jk,jk,jk,jk,jk,jk,jk,jk,jk,jk,jk,jk,jk,jk,jk,jk,jk,jk,jk,jk,jk,jk,jk,jk,jk,jk,jk,jk,jk,jk,jk,jk,jk,.raw (.int .i64 ((n+2:Nat):Int)),.raw (.int .i64 (m.i:Int)),jk,jk,jk,jk,jk,jk,jk,jk,jk,jk,jk,jk,jk,jk,jk,jk,jk,jk,jk,jk,jk,jk,jk,jk,jk,jk,jk,jk,jk,jk,jk,jk,jk,jk,jk,jk,jk,jk,jk,jk,jk,jk,jk,jk,jk,jk,jk,jk,jk,jk,jk,jk,jk,jk,jk,jk,jk,jk,jk,jk,jk,jk,jk,jk,jk,jk,jk,jk,jk,jk,jk,jk,jk,jk,jk,jk,jk,jk,jk,jk,jk,jk,jk,jk,jk,jk,jk],Hm [(0,[⟨118,1,lc fU (pre++((m.us++u.drop m.i)++post))⟩])]⟩) (fun m=>n+2-m.i) (BN.start u v g) ?_ ?_
  ·refine am ⟨?_,trivial⟩ ?_
   ·simp[BN.start]
   ·simp[cu,bD,bA,BN.start]
  ·intro m
   have hmi:=m.hi
   have hmc:=m.hc
   have hmb:=m.hb
   have hml:=m.len
   by_cases hlt:m.i<n+2
   ·obtain⟨x,hx⟩:=getElem?_of_lt (l:=v) (k:=m.i) (by omega)
    obtain⟨y,hy⟩:=getElem?_of_lt (l:=u) (k:=m.i) (by omega)
    have hx':=ct H.lv hx
    have hy':=ct H.lu hy
    obtain⟨c1,c2⟩:=ss hg3 hx' hmc
    have hgx:g*x<=4294967296*4294967295:=Nat.mul_le_mul hg3 (by omega)
    have e4:(g:Int)*(x:Int)=((g*x:Nat):Int):=by simp
    have e5:(m.c:Int)+((g*x:Nat):Int)=((m.c+g*x:Nat):Int):=by simp
    have hseg:=rz hml hy
    have hsl:=rV (u:=u) hml (by omega)
    have hget:=i4 (post:=post) hp hseg
    have hlo:(m.c+g*x)%4294967296<4294967296:=Nat.mod_lt _ (by omega)
    obtain⟨b1,b2⟩:=Fs y ((m.c+g*x)%4294967296) m.b hy' hlo hmb
    obtain⟨m',q1,q2,q3,q4⟩:=CL m (l:=(y+8589934592-((m.c+g*x)%4294967296+m.b))%4294967296) (b':=if y<(m.c+g*x)%4294967296+m.b then 1 else 0) hg3 hx hy H.lv (Nat.mod_lt _ (by omega)) (by split<;>omega) (by split<;>omega)
    have hset:=nA (post:=post) ((y+8589934592-((m.c+g*x)%4294967296+m.b))%4294967296) hp (show m.i<(m.us++u.drop m.i).length by omega)
    rw[nK _ hml (by omega)]at hset
    have e6:=nB (m.c+g*x)
    have e7:=ya (m.c+g*x)
    have hrl:(pre++((m.us++u.drop m.i)++post)).length=off+(n+3)+post.length:=by simp only[List.length_append]at hRl hsl⊢;omega
    generalize(m.c+g*x)%4294967296=lo at*
    generalize(m.c+g*x)/4294967296=hi' at*
    generalize g*x=gx at*
    generalize(if y<lo+m.b then 1 else 0:Nat)=nb at*
    generalize(y+8589934592-(lo+m.b))%4294967296=nl at*
    generalize hRR:pre++((m.us++u.drop m.i)++post)=RR at*
    (refine bG [] [] (by kernel_rfl) (by simp) fun K hK=>?_;simp(disch:=omega) only[kc,ab,bO,Hm,aj,ai,bE];apply hK)
    refine cI (cP rfl (fun _=>ez ?_) (fun h=>by simp at h<;>omega))
    refine cI (fi ?_)
    (refine bG [] [] (by kernel_rfl) (by simp) fun K hK=>?_;simp(disch:=omega) only[kc,ab];apply hK)
    (refine bG [] [] (by kernel_rfl) (by simp) fun K hK=>?_;simp(disch:=omega) only[kc,ab,Nat.reduceAdd,ag,ao,an,ah,bI,hx,fU,aO,ax,bu,bf,aj,Tryz.underlying118,bP,cS,ai,e4,e5];apply hK)
    (refine bG [] [] (by kernel_rfl) (by simp) fun K hK=>?_;simp(disch:=omega) only[kc,ab,Nat.reduceAdd,ag,ao,an,ah,aO,bL,b8,fU,hget,ax,bu,bf,aj,Tryz.underlying118,bP,cS,Tryz.underlying88,bZ,e6,ai];apply hK)
    (refine bG [] [] (by kernel_rfl) (by simp) fun K hK=>?_;simp(disch:=omega) only[kc,ab,Nat.reduceAdd,bf,aj,Tryz.underlying88,bZ,b1,ag,ao,an,ah,aO,bL,aB,dr,bN,b8,fU,hget,cellsOf,Nat.le_refl,isPure,putCells,dy,hset,aH,aL];apply hK)
    (refine bG [] [] (by kernel_rfl) (by simp) fun K hK=>?_;simp(disch:=omega) only[kc,ab,Nat.reduceAdd,aj,ac,Value.oneCell',ai,Int.reduceLE,Int.reduceToNat,e7];apply hK)
    ((refine eG [] [] (by kernel_rfl) (by simp) fun K hK=>?_);simp(disch:=omega) only[kc,ab,Nat.reduceAdd,aj,ac,Value.oneCell',ai,Int.reduceLE,Int.reduceToNat,b2];apply hK)
    show ib _ _ _ _ _
    ((refine eG [] [] (by kernel_rfl) (by simp) fun K hK=>?_);simp(disch:=omega) only[kc,ab,aj,ac,Value.oneCell',ai,bC];apply hK)
    refine⟨m',by omega,am ⟨?_,trivial⟩ ?_⟩
    ·rw[q1,q2];rfl
    ·simp[cu,bD,bA,q1,q3,q4]
   ·have hie:m.i=n+2:=by omega
    have hseg:(m.us++u.drop m.i)[n+2]?=some u2:=by
     have:=rz hml (show u[m.i]?=some u2 by rw[hie];exact H.hu2)
     rwa[hie]at this⊢
    have hsl:=rV (u:=u) hml (by omega)
    have hget:=i4 (post:=post) hp hseg
    have hset:=fun t=>nA (post:=post) t hp (show n+2<(m.us++u.drop m.i).length by omega)
    have hse: ∀t,(m.us++u.drop m.i).set (n+2) t=m.us++[t]:=fun t=>by
     have:=nK (u:=u) t hml (by omega)
     rw[List.drop_eq_nil_iff.2 (show u.length<=m.i+1 by omega),List.append_nil,hie]at this
     rw[hie];exact this
    simp only[hse]at hset
    obtain⟨b1,b2⟩:=Fs u2 m.c m.b bu2 hmc hmb
    have hrl:(pre++((m.us++u.drop m.i)++post)).length=off+(n+3)+post.length:=by simp only[List.length_append]at hRl hsl⊢;omega
    by_cases hno:m.c+m.b<=u2
    ·have b3:(u2:Int)-(m.c:Int)-(m.b:Int)=((u2-(m.c+m.b):Nat):Int):=by omega
     have b4:Int.fdiv ((u2-(m.c+m.b):Nat):Int) (2^(min 63 IntKind.u64.bits))=0:=by
      rw[vR (by omega)]
      have:(u2-(m.c+m.b))/2^63=0:=Nat.div_eq_of_lt (by omega)
      rw[this];rfl
     have hnl:u2-(m.c+m.b)<4294967296:=by omega
     obtain⟨q1,q2⟩:=H.right m hie hg1 hno
     have hs:=hset (u2-(m.c+m.b))
     rw[q2]at hs
     have e7:IntKind.u32.wrap (g:Int)=((natV u/natV v:Nat):Int):=by rw[nB,q1];omega
     generalize u2-(m.c+m.b)=nl at*
     generalize hRR:pre++((m.us++u.drop m.i)++post)=RR at*
     (refine bG [] [] (by kernel_rfl) (by simp) fun K hK=>?_;simp(disch:=omega) only[kc,ab,bO,Hm,aj,ai,bj];apply hK)
     refine cI (cP rfl (fun h=>by simp at h<;>omega) (fun _=>f5 ?_))
     show ib _ _ _ _ _
     (refine bG [] [] (by kernel_rfl) (by simp) fun K hK=>?_;simp(disch:=omega) only[kc,ab,Nat.reduceAdd,ag,ao,an,ah,aO,bL,b8,fU,hget,ax,bu,bf,aj,Tryz.underlying118,bP,cS,ai,b3];apply hK)
     (refine bG [] [] (by kernel_rfl) (by simp) fun K hK=>?_;simp(disch:=omega) only[kc,ab,Nat.reduceAdd,bf,aj,Tryz.underlying88,bZ,xg,ag,ao,an,ah,aO,bL,aB,dr,bN,b8,fU,hget,cellsOf,Nat.le_refl,isPure,putCells,dy,hs,aH,aL];apply hK)
     (refine cI (bG [] [] (by kernel_rfl) (by simp) fun K hK=>?_);simp(disch:=omega) only[kc,ab,Nat.reduceAdd,aj,ac,Value.oneCell',ai,Int.reduceLE,Int.reduceToNat,b4,bE];apply hK)
     refine cP rfl (fun _=>?_) (fun h=>by simp at h)
     (refine bG [] [] (by kernel_rfl) (by simp) fun K hK=>?_;simp(disch:=omega) only[kc,ab,Nat.reduceAdd,bf,aj,Tryz.underlying88,bZ,e7];apply hK)
     refine se ⟨.inr rfl,⟨[.one (.sl 0 0 off (n+3)),jk,jk,jk,.raw (.int .u32 ((natV u/natV v:Nat):Int)),jk,jk,jk,jk,jk,jk,jk,jk,jk,jk,jk,jk,jk,jk,jk,jk,jk,jk,jk,jk,jk,jk,jk,jk,jk,jk,jk,jk,jk,jk,jk,jk,jk,jk,jk,jk,jk,jk,jk,jk,jk,jk,jk,jk,jk,jk,jk,jk,jk,jk,jk,jk,jk,jk,jk,jk,jk,jk,jk,jk,jk,jk,jk,jk,jk,jk,jk,jk,jk,jk,jk,jk,jk,jk,jk,jk,jk,jk,jk,jk,jk,jk,jk,jk,jk,jk,jk,jk,jk,jk,jk,jk,jk,jk,jk,jk,jk,jk,jk,jk,jk,jk,jk,jk,jk,jk,jk,jk,jk,jk,jk,jk,jk,jk,jk,jk,jk,jk,jk,jk,jk,jk,jk,jk,jk,jk,jk,jk,jk,jk,jk,jk,jk,jk,jk,jk,jk,jk,jk,jk,jk,jk,jk,jk,jk,jk,jk,jk,jk,jk,jk,jk,jk,jk,jk,jk,jk,jk,jk,jk,jk,jk,jk,jk,jk,jk],Hm [(0,[⟨118,1,lc fU (pre++(b9 (n+3) (natV u%natV v)++post))⟩])]⟩,am ⟨rfl,trivial⟩ (by simp[cu,bD,bA]),rfl,rQ _,?_⟩
     simp(disch:=omega) only[bK,Tryz.results149,aN,List.getElem?_cons_succ,List.getElem?_cons_zero]
    ·rw[if_pos (by omega)]at b2
     obtain⟨t,ht⟩: ∃t,t=u2+4294967296-(m.c+m.b):=⟨_,rfl⟩
     have ht4:t<4294967296:=by omega
     rw[show(u2+8589934592-(m.c+m.b))%4294967296=t by omega]at b1
     have hs:=hset t
     have lu':Lmb (m.us++[t]):=jM m.lmb ht4
     have nu':(m.us++[t]).length=n+3:=by rw[List.length_append,hml,hie];rfl
     have hleft:=fun a hai=>H.left m hie hg2 (by omega) ht a hai
     have htop:(m.us++[t])[n+2]?=some t:=by rw[List.getElem?_append_right (by omega),hml,hie,Nat.sub_self];rfl
     clear hset hse hno ht
     generalize hRR:pre++((m.us++u.drop m.i)++post)=RR at*
     (refine bG [] [] (by kernel_rfl) (by simp) fun K hK=>?_;simp(disch:=omega) only[kc,ab,bO,Hm,aj,ai,bj];apply hK)
     refine cI (cP rfl (fun h=>by simp at h<;>omega) (fun _=>f5 ?_))
     show ib _ _ _ _ _
     (refine bG [] [] (by kernel_rfl) (by simp) fun K hK=>?_;simp(disch:=omega) only[kc,ab,Nat.reduceAdd,ag,ao,an,ah,aO,bL,b8,fU,hget,ax,bu,bf,aj,Tryz.underlying118,bP,cS,ai];apply hK)
     (refine bG [] [] (by kernel_rfl) (by simp) fun K hK=>?_;simp(disch:=omega) only[kc,ab,Nat.reduceAdd,bf,aj,Tryz.underlying88,bZ,b1,ag,ao,an,ah,aO,bL,aB,dr,bN,b8,fU,hget,cellsOf,Nat.le_refl,isPure,putCells,dy,hs,aH,aL];apply hK)
     (refine cI (bG [] [] (by kernel_rfl) (by simp) fun K hK=>?_);simp(disch:=omega) only[kc,ab,Nat.reduceAdd,aj,ac,Value.oneCell',ai,Int.reduceLE,Int.reduceToNat,b2,bj];apply hK)
     refine cP rfl (fun h=>by simp at h) (fun _=>ez ?_)
     show ib _ _ _ _ _
     (refine bG [] [] (by kernel_rfl) (by simp) fun K hK=>?_;simp(disch:=omega) only[kc,ab,ac,Value.oneCell'];apply hK)
     (refine cI (bG [] [] (by kernel_rfl) (by simp) fun K hK=>?_);simp(disch:=omega) only[kc,ab,ac,Value.oneCell'];apply hK)
     refine jQ (G:=Di (m.us++[t]) v) (fun a=>⟨[.one (.sl 0 0 off (n+3)),bO v,jk,jk,jk,.raw (.int .i64 ((n+2:Nat):Int)),jk,.raw (.int .u64 (g:Int)),jk,.raw (.int .u64 (a.c:Int)),jk,jk,jk,jk,jk,jk,jk,jk,jk,jk,jk,jk,jk,jk,jk,jk,jk,jk,jk,jk,jk,jk,jk,jk,jk,jk,jk,jk,jk,jk,jk,jk,jk,jk,jk,jk,jk,jk,jk,jk,jk,jk,jk,jk,jk,jk,jk,jk,jk,jk,jk,jk,jk,jk,jk,jk,jk,jk,jk,jk,jk,jk,jk,jk,jk,jk,jk,jk,jk,jk,jk,jk,jk,jk,jk,jk,jk,jk,jk,jk,jk,jk,jk,jk,jk,jk,jk,jk,jk,jk,jk,jk,jk,jk,jk,jk,jk,jk,jk,jk,jk,jk,jk,jk,jk,jk,jk,jk,jk,jk,jk,jk,jk,jk,jk,jk,jk,jk,jk,jk,jk,jk,jk,jk,jk,.raw (.int .i64 ((n+2:Nat):Int)),.raw (.int .i64 (a.i:Int)),jk,jk,jk,jk,jk,jk,jk,jk,jk,jk,jk,jk,jk,jk,jk,jk,jk,jk,jk,jk,jk,jk,jk,jk,jk,jk,jk,jk,jk,jk,jk,jk,jk,jk],Hm [(0,[⟨118,1,lc fU (pre++((a.us++(m.us++[t]).drop a.i)++post))⟩])]⟩) (fun a=>n+2-a.i) (Di.start _ _) ?_ ?_
     ·refine am ⟨?_,trivial⟩ ?_
      ·simp[Di.start,au]
      ·simp[cu,bD,bA,Di.start]
     ·intro a
      have hai:=a.hi
      have hac:=a.hc
      have hal:=a.len
      generalize m.us++[t]=U' at*
      have hsl2:=rV (u:=U') hal (by omega)
      have hrl2:(pre++((a.us++U'.drop a.i)++post)).length=off+(n+3)+post.length:=by simp only[List.length_append]at hsl2⊢;omega
      by_cases hlt2:a.i<n+2
      ·obtain⟨x,hx⟩:=getElem?_of_lt (l:=v) (k:=a.i) (by omega)
       obtain⟨y,hy⟩:=getElem?_of_lt (l:=U') (k:=a.i) (by omega)
       have hx':=ct H.lv hx
       have hy':=ct lu' hy
       have hget2:=i4 (post:=post) hp (rz hal hy)
       have hset2:=nA (post:=post) ((a.c+(y+x))%4294967296) hp (show a.i<(a.us++U'.drop a.i).length by omega)
       rw[nK _ hal (by omega)]at hset2
       obtain⟨a',q1,q2,q3⟩:=CJ a hx hy H.lv lu'
       have e4:(a.c:Int)+((y:Int)+(x:Int))=((a.c+(y+x):Nat):Int):=by omega
       have e6:=nB (a.c+(y+x))
       have e7:=ya (a.c+(y+x))
       generalize(a.c+(y+x))%4294967296=nl at*
       generalize(a.c+(y+x))/4294967296=nc at*
       generalize hR2:pre++((a.us++U'.drop a.i)++post)=R2 at*
       (refine bG [] [] (by kernel_rfl) (by simp) fun K hK=>?_;simp(disch:=omega) only[kc,ab,bO,Hm,aj,ai,bE];apply hK)
       refine cI (cP rfl (fun _=>ez ?_) (fun h=>by simp at h<;>omega))
       refine cI (fi ?_)
       (refine bG [] [] (by kernel_rfl) (by simp) fun K hK=>?_;simp(disch:=omega) only[kc,ab];apply hK)
       (refine gp bU [] [] (by kernel_rfl) (by kernel_rfl) (by simp) fun K hK=>?_;simp(disch:=omega) only[kc,ab,Nat.reduceAdd,ag,ao,an,ah,aO,bL,b8,fU,hget2,ax,bu,bf,aj,Tryz.underlying118,bP,cS,bI,hx,ai,e4];apply hK)
       (refine bG [] [] (by kernel_rfl) (by simp) fun K hK=>?_;simp(disch:=omega) only[kc,ab,Nat.reduceAdd,bf,aj,Tryz.underlying88,bZ,e6,ag,ao,an,ah,aO,bL,aB,dr,bN,b8,fU,hget2,cellsOf,Nat.le_refl,isPure,putCells,dy,hset2,aH,aL];apply hK)
       ((refine eG [] [] (by kernel_rfl) (by simp) fun K hK=>?_);simp(disch:=omega) only[kc,ab,Nat.reduceAdd,aj,ac,Value.oneCell',ai,Int.reduceLE,Int.reduceToNat,e7];apply hK)
       show ib _ _ _ _ _
       ((refine eG [] [] (by kernel_rfl) (by simp) fun K hK=>?_);simp(disch:=omega) only[kc,ab,aj,ac,Value.oneCell',ai,bC];apply hK)
       refine⟨a',by omega,am ⟨?_,trivial⟩ ?_⟩
       ·rw[q1,q2];rfl
       ·simp[cu,bD,bA,q1,q3]
      ·have hae:a.i=n+2:=by omega
       obtain⟨q1,q2⟩:=hleft a hae
       have hget2:(pre++((a.us++U'.drop a.i)++post))[off+(n+2)]?=some t:=by
        have:=i4 (post:=post) hp (rz hal (show U'[a.i]?=some t by rw[hae];exact htop))
        rwa[hae]at this⊢
       have hset2:=nA (post:=post) ((t+a.c)%4294967296) hp (show a.i<(a.us++U'.drop a.i).length by omega)
       rw[nK _ hal (by omega),List.drop_eq_nil_iff.2 (show U'.length<=a.i+1 by omega),List.append_nil,q2,hae]at hset2
       have e4:IntKind.u32.wrap ((t:Int)+(a.c:Int))=(((t+a.c)%4294967296:Nat):Int):=by rw[<- nB];congr 1<;>omega
       have e5:(g:Int)-1=((natV u/natV v:Nat):Int):=by rw[q1];simp
       have e6:IntKind.u32.wrap ((natV u/natV v:Nat):Int)=((natV u/natV v:Nat):Int):=by rw[nB];congr 1;exact Nat.mod_eq_of_lt hqlt
       have e8:IntKind.u64.wrap ((natV u/natV v:Nat):Int)=((natV u/natV v:Nat):Int):=by
        generalize natV u/natV v=qq at*
        rw[IntKind.wrap_u64];omega
       have hRe:pre++((a.us++U'.drop a.i)++post)=pre++((a.us++U'.drop (n+2))++post):=by rw[hae]
       generalize(t+a.c)%4294967296=nl at*
       rw[<- hRe]at hset2
       generalize hR2:pre++((a.us++U'.drop a.i)++post)=R2 at*
       (refine bG [] [] (by kernel_rfl) (by simp) fun K hK=>?_;simp(disch:=omega) only[kc,ab,bO,Hm,aj,ai,bj];apply hK)
       refine cI (cP rfl (fun h=>by simp at h<;>omega) (fun _=>f5 ?_))
       show ib _ _ _ _ _
       (refine bG [] [] (by kernel_rfl) (by simp) fun K hK=>?_;simp(disch:=omega) only[kc,ab,Nat.reduceAdd,ag,ao,an,ah,aO,bL,b8,fU,hget2,ax,bu,bf,aj,Tryz.underlying88,bZ,xg,ai,e4,aB,dr,bN,cellsOf,Nat.le_refl,isPure,putCells,dy,hset2,aH,aL];apply hK)
       (refine bG [] [] (by kernel_rfl) (by simp) fun K hK=>?_;simp(disch:=omega) only[kc,ab,Nat.reduceAdd,aj,ac,Value.oneCell',ai,e5,e8,bf,Tryz.underlying88,bZ,e6];apply hK)
       refine se ⟨.inr rfl,⟨[.one (.sl 0 0 off (n+3)),jk,jk,jk,.raw (.int .u32 ((natV u/natV v:Nat):Int)),jk,jk,jk,jk,jk,jk,jk,jk,jk,jk,jk,jk,jk,jk,jk,jk,jk,jk,jk,jk,jk,jk,jk,jk,jk,jk,jk,jk,jk,jk,jk,jk,jk,jk,jk,jk,jk,jk,jk,jk,jk,jk,jk,jk,jk,jk,jk,jk,jk,jk,jk,jk,jk,jk,jk,jk,jk,jk,jk,jk,jk,jk,jk,jk,jk,jk,jk,jk,jk,jk,jk,jk,jk,jk,jk,jk,jk,jk,jk,jk,jk,jk,jk,jk,jk,jk,jk,jk,jk,jk,jk,jk,jk,jk,jk,jk,jk,jk,jk,jk,jk,jk,jk,jk,jk,jk,jk,jk,jk,jk,jk,jk,jk,jk,jk,jk,jk,jk,jk,jk,jk,jk,jk,jk,jk,jk,jk,jk,jk,jk,jk,jk,jk,jk,jk,jk,jk,jk,jk,jk,jk,jk,jk,jk,jk,jk,jk,jk,jk,jk,jk,jk,jk,jk,jk,jk,jk,jk,jk,jk,jk,jk,jk,jk,jk,jk],Hm [(0,[⟨118,1,lc fU (pre++(b9 (n+3) (natV u%natV v)++post))⟩])]⟩,am ⟨rfl,trivial⟩ (by simp[cu,bD,bA]),rfl,rQ _,?_⟩
       simp(disch:=omega) only[bK,Tryz.results149,aN,List.getElem?_cons_succ,List.getElem?_cons_zero]
section
theorem jR: ∀(k n x:Nat),b9 (k+n) x=b9 k x++b9 n (x/4294967296^k)
 |0,n,x=>by simp[b9]
 |k+1,n,x=>by
  rw[show k+1+n=(k+n)+1 by omega,b9,jR k n,b9,Nat.div_div_eq_div_mul,Nat.pow_succ,Nat.mul_comm 4294967296];rfl
theorem oG: ∀(k x:Nat),b9 k (x%4294967296^k)=b9 k x
 |0,x=>rfl
 |k+1,x=>by
  rw[b9,b9,Nat.pow_succ,Nat.mul_comm (4294967296^k),Nat.mod_mul_right_mod,Nat.mod_mul_right_div_self,oG k]
theorem ld (k n x y:Nat) (hx:x<4294967296^k):b9 (k+n) (y*4294967296^k+x)=b9 k x++b9 n y:=by
 have hp:0<4294967296^k:=Nat.pow_pos (by omega)
 rw[jR,<- oG k (y*4294967296^k+x),Nat.mul_comm y,Nat.mul_add_mod,Nat.mod_eq_of_lt hx,Nat.mul_add_div hp,Nat.div_eq_of_lt hx,Nat.add_zero]
theorem qT: ∀n,b9 n 0=List.replicate n 0
 |0=>rfl
 |n+1=>by rw[b9,Nat.zero_mod,Nat.zero_div,qT n];rfl
def dY (A V k:Nat):Nat:=A%(V*4294967296^k)
def iI (A V k:Nat):Nat:=A/(V*4294967296^k)*4294967296^k
section
variable {A V k:Nat} (hV:0<V)
include hV
theorem z8 : dY A V (k + 1) / 4294967296 ^ k < V * 4294967296 := by
  have hp : 0 < 4294967296 ^ k := Nat.pow_pos (by omega)
  rw [Nat.div_lt_iff_lt_mul hp]
  have := Nat.mod_lt A (show 0 < V * 4294967296 ^ (k + 1) from Nat.mul_pos hV (Nat.pow_pos (by omega)))
  rw [Nat.pow_succ] at this
  unfold dY
  rw [Nat.pow_succ]
  calc _ < V * (4294967296 ^ k * 4294967296) := this
    _ = _ := by grind
omit hV in
theorem AI:dY A V k=dY A V (k+1)/4294967296^k%V*4294967296^k+dY A V (k+1)%4294967296^k:=by
 unfold dY
 have e:V*4294967296^(k+1)=V*4294967296^k*4294967296:=by rw[Nat.pow_succ];grind
 have h1:A%(V*4294967296^k)=A%(V*4294967296^(k+1))%(V*4294967296^k):=by rw[e,Nat.mod_mul_right_mod]
 rw[h1]
 generalize A%(V*4294967296^(k+1))=x
 rw[Nat.mul_comm V,Nat.mod_mul]
 generalize 4294967296^k=p
 rw[Nat.add_comm,Nat.mul_comm p]
theorem zM:iI A V k=iI A V (k+1)+dY A V (k+1)/4294967296^k/V*4294967296^k:=by
 unfold iI dY
 have hp:0<4294967296^k:=Nat.pow_pos (by omega)
 have e:V*4294967296^(k+1)=V*4294967296^k*4294967296:=by rw[Nat.pow_succ];grind
 have h1:=Nat.div_add_mod A (V*4294967296^(k+1))
 generalize hq:A/(V*4294967296^(k+1))=q at*
 generalize hr:A%(V*4294967296^(k+1))=r at*
 have h2:A/(V*4294967296^k)=q*4294967296+r/4294967296^k/V:=by
  rw[<- h1,e,Nat.mul_assoc (V*4294967296^k),Nat.mul_add_div (Nat.mul_pos hV hp),Nat.div_div_eq_div_mul,Nat.mul_comm (4294967296^k) V,Nat.mul_comm 4294967296]
 rw[h2,Nat.pow_succ]
 grind
theorem lV:dY A V (k+1)/4294967296^k/V<4294967296:=by
 rw[Nat.div_lt_iff_lt_mul hV,Nat.mul_comm]
 exact z8 hV
end
theorem B4 {A V k m:Nat} (hV:0<V) (hk:k<m) (hb:iI A V (k+1)<4294967296^m):(b9 m (iI A V (k+1))).set k (dY A V (k+1)/4294967296^k/V)=b9 m (iI A V k):=by
 have hd:=lV (A:=A) (k:=k) hV
 rw[zM (A:=A) (k:=k) hV]
 generalize dY A V (k+1)/4294967296^k/V=d at*
 obtain⟨q,hq⟩: ∃q,iI A V (k+1)=q*4294967296^(k+1):=⟨_,rfl⟩
 rw[hq]
 obtain⟨r,rfl⟩: ∃r,m=k+(1+r):=⟨m-(k+1),by omega⟩
 have e1:q*4294967296^(k+1)=(q*4294967296)*4294967296^k+0:=by rw[Nat.pow_succ];grind
 have e2:q*4294967296^(k+1)+d*4294967296^k=(q*4294967296+d)*4294967296^k+0:=by rw[Nat.pow_succ];grind
 have hp:0<4294967296^k:=Nat.pow_pos (by omega)
 rw[e2,ld _ _ _ _ hp,e1,ld _ _ _ _ hp,List.set_append_right _ _ (by rw[b6];exact Nat.le_refl _),b6,Nat.sub_self,Nat.add_comm 1 r,b9,b9,List.set_cons_zero]
 have a1:(q*4294967296+d)%4294967296=d:=by omega
 have a2:(q*4294967296+d)/4294967296=q*4294967296/4294967296:=by omega
 rw[a1,a2]
theorem Dl {A V k nb na:Nat} (hk:k+nb<=na):b9 (na+1) (dY A V (k+1))=b9 k (dY A V (k+1))++(b9 (nb+1) (dY A V (k+1)/4294967296^k)++b9 (na-(k+nb)) (dY A V (k+1)/4294967296^(k+nb+1))):=by
 conv=>lhs;rw[show na+1=k+((nb+1)+(na-(k+nb))) by omega]
 rw[jR,jR,Nat.div_div_eq_div_mul,<- Nat.pow_add,show k+(nb+1)=k+nb+1 by omega]
theorem y9 {A V k nb na:Nat} (hV:0<V) (hVB:V<=4294967296^nb) (hk:k+nb<=na):b9 k (dY A V (k+1))++(b9 (nb+1) (dY A V (k+1)/4294967296^k%V)++b9 (na-(k+nb)) (dY A V (k+1)/4294967296^(k+nb+1)))=b9 (na+1) (dY A V k):=by
 have hp:0<4294967296^k:=Nat.pow_pos (by omega)
 have hz:dY A V (k+1)/4294967296^(k+nb+1)=0:=by
  apply Nat.div_eq_of_lt
  have:=Nat.mod_lt A (show 0<V*4294967296^(k+1)from Nat.mul_pos hV (Nat.pow_pos (by omega)))
  unfold dY
  refine Nat.lt_of_lt_of_le this ?_
  have e:4294967296^(k+nb+1)=4294967296^nb*4294967296^(k+1):=by rw[<- Nat.pow_add];congr 1;omega
  rw[e]
  exact Nat.mul_le_mul_right _ hVB
 have hm:=Nat.mod_lt (dY A V (k+1)/4294967296^k) hV
 rw[AI (A:=A) (V:=V) (k:=k),hz]
 generalize dY A V (k+1)/4294967296^k%V=u at*
 rw[<- oG k (dY A V (k+1))]
 have hx:=Nat.mod_lt (dY A V (k+1)) hp
 generalize dY A V (k+1)%4294967296^k=x at*
 have hu:u<4294967296^(nb+1):=by
  have:4294967296^nb<=4294967296^(nb+1):=Nat.pow_le_pow_right (by omega) (by omega)
  omega
 rw[show na+1=k+((nb+1)+(na-(k+nb))) by omega,ld _ _ _ _ hx]
 congr 1
 have:=ld (nb+1) (na-(k+nb)) u 0 hu
 rw[Nat.zero_mul,Nat.zero_add]at this
 exact this.symm
/-! The shift. -/
theorem si: ∀(x:Nat),x≠0->x<18446744073709551616->1<=Lib.bitLen x/\2^(Lib.bitLen x-1)<=x/\x<2^Lib.bitLen x:=fun x=>by
 induction x using Nat.strongRecOn with
 |_ x ih=>
  intro h0 hx
  have hh:=Lib.bitLen_half x h0 hx
  by_cases h1:x/2=0
  ·have hx1:x=1:=by omega
   subst hx1
   have:Lib.bitLen 1=1:=by decide
   rw[this];exact⟨by omega,by decide,by decide⟩
  ·obtain⟨q1,q2,q3⟩:=ih (x/2) (by omega) h1 (by omega)
   rw[hh]
   refine⟨by omega,?_,?_⟩
   ·rw[show 1+Lib.bitLen (x/2)-1=(Lib.bitLen (x/2)-1)+1 by omega,Nat.pow_succ];omega
   ·rw[Nat.add_comm,Nat.pow_succ];omega
def lz (x:Nat):Nat:=32-Lib.bitLen x
theorem C1 {x : Nat} (h0 : x ≠ 0) (hx : x < 4294967296) : lz x < 32 /\ 2147483648 <= x * 2 ^ lz x /\ x * 2 ^ lz x < 4294967296 := by
  obtain ⟨h1, h2, h3⟩ := si x h0 (by omega)
  have h4 := Lib.bitLen_le x 32 (by omega) (by simpa using hx)
  unfold lz
  refine ⟨by omega, ?_, ?_⟩
  · calc 2147483648 = 2 ^ (Lib.bitLen x - 1) * 2 ^ (32 - Lib.bitLen x) := by
          rw [<- Nat.pow_add, show Lib.bitLen x - 1 + (32 - Lib.bitLen x) = 31 by omega]
      _ <= _ := Nat.mul_le_mul_right _ h2
  · calc x * 2 ^ (32 - Lib.bitLen x) < 2 ^ Lib.bitLen x * 2 ^ (32 - Lib.bitLen x) := Nat.mul_lt_mul_of_pos_right h3 (Nat.two_pow_pos _)
      _ = 4294967296 := by rw [<- Nat.pow_add, show Lib.bitLen x + (32 - Lib.bitLen x) = 32 by omega]
theorem Co {b n x s : Nat} (hl : (aK b).length = n + 1) (hx : (aK b)[n]? = some x) (hs : 2147483648 <= x * 2 ^ s /\ x * 2 ^ s < 4294967296) (hs32 : s < 32) :
    b * 2 ^ s < 4294967296 ^ (n + 1) /\ 2147483648 * 4294967296 ^ n <= b * 2 ^ s := by
  have h1 := bS hx
  rw [List.take_of_length_le (by omega), aG] at h1
  have h2 := d6 (aY b) n
  have hp : 0 < 4294967296 ^ n := Nat.pow_pos (by omega)
  have hps := sR hs32
  constructor
  · -- b < (x + 1) B^n, and (x + 1) 2^s <= B, for x 2^s < B and 2^s divides B
    have h3 : (x + 1) * 2 ^ s <= 4294967296 := by
      have e : 4294967296 = 2 ^ (32 - s) * 2 ^ s := by rw [<- Nat.pow_add, show 32 - s + s = 32 by omega]
      rw [e] at hs ⊢
      exact Nat.mul_le_mul_right _ (Nat.lt_of_mul_lt_mul_right hs.2)
    calc b * 2 ^ s < (x + 1) * 4294967296 ^ n * 2 ^ s := by
          refine Nat.mul_lt_mul_of_pos_right ?_ (Nat.two_pow_pos s)
          rw [h1, Nat.add_mul, Nat.one_mul]; omega
      _ = (x + 1) * 2 ^ s * 4294967296 ^ n := by grind
      _ <= 4294967296 * 4294967296 ^ n := Nat.mul_le_mul_right _ h3
      _ = 4294967296 ^ (n + 1) := by rw [Nat.pow_succ, Nat.mul_comm]
  · calc 2147483648 * 4294967296 ^ n <= x * 2 ^ s * 4294967296 ^ n := Nat.mul_le_mul_right _ hs.1
      _ = x * 4294967296 ^ n * 2 ^ s := by grind
      _ <= b * 2 ^ s := Nat.mul_le_mul_right _ (by omega)
end
theorem DH {A V k n : Nat} (hV1 : V < 4294967296 ^ (n + 2)) (hV2 : 2147483648 * 4294967296 ^ (n + 1) <= V) : ∃ v1 v2 u2 u1 u0, pO (b9 (n + 3) (dY A V (k + 1) / 4294967296 ^ k)) (b9 (n + 2) V) n v1 v2 u2 u1 u0 /\ natV (b9 (n + 3) (dY A V (k + 1) / 4294967296 ^ k)) = dY A V (k + 1) / 4294967296 ^ k /\ natV (b9 (n + 2) V) = V := by
  have hp : 0 < 4294967296 ^ (n + 1) := Nat.pow_pos (by omega)
  have hV : 0 < V := by omega
  have hr := z8 (A := A) (k := k) hV
  have hlt : dY A V (k + 1) / 4294967296 ^ k < 4294967296 ^ (n + 3) := by
    calc _ < V * 4294967296 := hr
      _ <= 4294967296 ^ (n + 2) * 4294967296 := Nat.mul_le_mul_right _ (Nat.le_of_lt hV1)
      _ = _ := (Nat.pow_succ ..).symm
  refine ⟨_, _, _, _, _, ⟨jz _ _, jz _ _, b6 _ _, b6 _ _, eH (by omega), eH (by omega), eH (by omega), eH (by omega), eH (by omega), ?_, ?_⟩, eR hlt, eR hV1⟩
  · have h1 : V / 4294967296 ^ (n + 1) < 4294967296 := by
      rw [Nat.div_lt_iff_lt_mul hp]
      have : 4294967296 ^ (n + 2) = 4294967296 ^ (n + 1) * 4294967296 := Nat.pow_succ ..
      omega
    rw [Nat.mod_eq_of_lt h1, Nat.le_div_iff_mul_le hp]
    exact hV2
  · rw [eR hlt, eR hV1]; exact hr
theorem x6 {a b s n m:Nat} (ha:a<4294967296^(n+2+m)) (hb:4294967296^(n+1)<=b):dY (a*2^s) (b*2^s) (m+1)=a*2^s/\iI (a*2^s) (b*2^s) (m+1)=0:=by
 have h1:a*2^s<b*2^s*4294967296^(m+1):=by
  have h2:4294967296^(n+2+m)<=b*4294967296^(m+1):=by
   have e:4294967296^(n+2+m)=4294967296^(n+1)*4294967296^(m+1):=by rw[<- Nat.pow_add];congr 1;omega
   rw[e]
   exact Nat.mul_le_mul_right _ hb
  rw[Nat.mul_right_comm]
  exact Nat.mul_lt_mul_of_pos_right (Nat.lt_of_lt_of_le ha h2) (Nat.two_pow_pos s)
 unfold dY iI
 rw[Nat.mod_eq_of_lt h1,Nat.div_eq_of_lt h1,Nat.zero_mul]
 exact⟨rfl,rfl⟩
theorem C7 {a b s:Nat}:dY (a*2^s) (b*2^s) 0=a%b*2^s/\iI (a*2^s) (b*2^s) 0=a/b:=by
 unfold dY iI
 rw[Nat.pow_zero,Nat.mul_one,Nat.mul_one,Nat.mul_mod_mul_right,Nat.mul_div_mul_right _ _ (Nat.two_pow_pos s)]
 exact⟨rfl,rfl⟩
theorem DO {A V k m:Nat} (hA:A<V*4294967296^m) (hk:k<=m):iI A V k<4294967296^m:=by
 have hp:0<4294967296^k:=Nat.pow_pos (by omega)
 unfold iI
 have h1:A/(V*4294967296^k)<4294967296^(m-k):=by
  rw[<- Nat.div_div_eq_div_mul]
  apply Nat.div_lt_of_lt_mul
  apply Nat.div_lt_of_lt_mul
  have e:4294967296^m=4294967296^k*4294967296^(m-k):=by rw[<- Nat.pow_add];congr 1;omega
  rw[e]at hA
  exact hA
 have e:4294967296^m=4294967296^(m-k)*4294967296^k:=by rw[<- Nat.pow_add];congr 1;omega
 rw[e]
 exact Nat.mul_lt_mul_of_pos_right h1 hp
theorem tg {b n:Nat} (h:(aK b).length=n+1): ∃x,(aK b)[n]?=some x/\x≠0/\x<4294967296/\4294967296^n<=b:=by
 obtain⟨x,hx⟩: ∃x,(aK b)[n]?=some x:=⟨(aK b)[n],by simp[h]⟩
 have hc:=cw b
 unfold kH at hc
 rw[List.getLast?_eq_getElem?,h,Nat.add_sub_cancel,hx]at hc
 have hx0:x≠0:=fun e=>hc (by rw[e])
 have h1:=bS hx
 rw[List.take_of_length_le (by omega),aG]at h1
 refine⟨x,hx,hx0,ct (aY b) hx,?_⟩
 rw[h1]
 have:1*4294967296^n<=x*4294967296^n:=Nat.mul_le_mul_right _ (by omega)
 omega
theorem yr {b:Nat} (h:(aK b).length=1):(aK b)[0]?=some b/\b<4294967296:=by
 obtain⟨x,hx,_,hx',_⟩:=tg (n:=0) h
 have h1:=bS hx
 rw[List.take_of_length_le (by omega),aG]at h1
 simp[natV]at h1
 subst h1
 exact⟨hx,hx'⟩
theorem tI (a:Nat):a<4294967296^(aK a).length:=by
 have:=eO (aY a)
 rwa[aG]at this
theorem xT {n m x:Nat} (h:n<=m):(b9 m x).take n=b9 n x:=by
 obtain⟨d,rfl⟩: ∃d,m=n+d:=⟨m-n,by omega⟩
 rw[jR,List.take_left' (b6 _ _)]
end Go.Proofs.YtpgghglbpcabkaaGreat
namespace Go.Proofs
open Go.Shelf
def Tryz.lays133_ren:Go.Shelf.Ren:=⟨fun|133=>147|128=>143|n=>n,fun|51=>118|3=>3|4=>4|46=>140|5=>5|9=>9|n=>n,fun|n=>n⟩
theorem Tryz.lays133:Go.Proofs.Lays.n133 Tryz.prog Tryz.lays133_ren:={
 mixed:=by kernel_rfl
 f128:=Tryz.func143.trans (congrArg some (by kernel_rfl))
 f133:=Tryz.func147.trans (congrArg some (by kernel_rfl))
 t3:=Tryz.underlying3
 a3:=Tryz.isAgg3
 z3:=Tryz.sizeOf3
 v3:=Tryz.zeroValue3
 t4:=Tryz.underlying4
 a4:=Tryz.isAgg4
 z4:=Tryz.sizeOf4
 v4:=Tryz.zeroValue4
 t5:=Tryz.underlying5
 a5:=Tryz.isAgg5
 z5:=Tryz.sizeOf5
 v5:=Tryz.zeroValue5
 t9:=Tryz.underlying9
 a9:=Tryz.isAgg9
 z9:=Tryz.sizeOf9
 v9:=Tryz.zeroValue9
 t46:=Tryz.underlying140
 a46:=Tryz.isAgg140
 z46:=Tryz.sizeOf140
 v46:=Tryz.zeroValue140
 t51:=Tryz.underlying118
 a51:=Tryz.isAgg118
 z51:=Tryz.sizeOf118
 v51:=Tryz.zeroValue118}
end Go.Proofs
namespace Go.Proofs.YtpgghglbpcabkaaGreat
open Go.RowKit
end Go.Proofs.YtpgghglbpcabkaaGreat
