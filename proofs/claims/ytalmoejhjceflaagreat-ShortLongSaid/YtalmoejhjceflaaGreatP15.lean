/-
  Part 16 of a proof (walks and plain facts).
-/
import Derived.Test.YtalmoejhjceflaaGreatP14
set_option linter.all false
set_option maxRecDepth 100000
set_option maxHeartbeats 64000000
open Nat renaming reduceAdd → aa
open Nat renaming reduceEqDiff → ab
open Nat renaming le_refl → ae
open List renaming replicate → af
open Nat renaming reduceBEq → ag
open Int renaming reduceToNat → an
open List renaming getElem?_eq_none → au
open Nat renaming pow_le_pow_right → aD
namespace Go.Proofs.YtalmoejhjceflaaGreat
open Go.RowKit
theorem nH (o:List Nat) (k v:Nat):(o++af (k+1) 0).set o.length v=(o++[v])++af k 0:=by
 rw[List.set_append_right _ _ (ae _),Nat.sub_self,List.replicate_succ,List.set_cons_zero,List.append_assoc];rfl
theorem qh (o:List Nat) (k:Nat):(o++af (k+1) 0)[o.length]?=some 0:=by
 rw[List.getElem?_append_right (ae _),Nat.sub_self,List.replicate_succ];rfl
theorem sK (l m:List Nat) (ll:Lmb l) (lm:Lmb m) (cl:nN l) (cm:nN m) (bl:l.length<=1073741824) (bm:m.length<=1073741824):
  CallC Tryz.prog 207 [bS l,bS m] ⟨[],.raw (.int .i64 (mL (natV l) (natV m)))⟩:=by
 rcases Nat.lt_trichotomy l.length m.length with hlt|heq|hgt
 ·rw[w9 (lV ll cm hlt)];refine aK Tryz.func207 rfl (by kernel_rfl) ?_;rw[Tryz.ntmps207];refine aE fun _ K=>?_;simp only[kd,bS,aa,af];apply K
  refine aG (aP ?_);refine aE fun _ K=>?_;simp(disch:=omega) only[kd,aa];apply K
  refine bo rfl ?_;refine aE fun _ K=>?_;simp only[kd];apply K
  (refine aL ⟨.inr rfl,aQ rfl ?_ rfl⟩;simp(disch:=omega) only[kd,Tryz.results207])
 ·refine aK Tryz.func207 rfl (by kernel_rfl) ?_;rw[Tryz.ntmps207];refine aE fun _ K=>?_;simp only[kd,bS,aa,af];apply K
  refine aG (aP ?_);refine aE fun _ K=>?_;simp(disch:=omega) only[kd,aa];apply K
  refine aU rfl ?_;refine aE fun _ K=>?_;simp(disch:=omega) only[kd,aa];apply K
  refine aU rfl (aR ?_);show bu _ _ _ _;refine aG (aE fun _ K=>?_);simp(disch:=omega) only[kd,aa,aM];apply K;refine bH (G:={k:Nat//k<=l.length/\l.drop k=m.drop k}) (fun k=>⟨(bS l::bS m::jk::jk::jk::.raw (.int .i64 ((k.1:Int)-1))::j16 (j16 (j4 (jk::jk::jk::[])))),Hm []⟩) (fun k=>k.1) ⟨l.length,ae _,by rw[List.drop_length,heq,List.drop_length]⟩ ?_ ?_
  ·refine aF trivial ?_;simp[wk]
  rintro⟨k,hk,hd⟩;simp only;by_cases h0:0<k
  ·obtain⟨a,ha⟩:=getElem?_of_lt (l:=l) (k:=k-1) (by omega);obtain⟨b,hb⟩:=getElem?_of_lt (l:=m) (k:=k-1) (by omega);have e1:((k:Int)-1).toNat=k-1:=by omega
   have hd':l.drop (k-1+1)=m.drop (k-1+1):=by rw[show k-1+1=k by omega];exact hd
   refine aG (aE fun _ K=>?_);simp(disch:=omega) only[kd,bS];apply K;refine bo rfl (aR ?_);refine aG (aP ?_);refine aP ?_;rcases Nat.lt_trichotomy a b with hab|hab|hab
   ·rw[w9 (s8 ll ha hb hd' hab)];refine dH bU (by kernel_rfl) fun _ K=>?_;simp(disch:=omega) only[kd,aa,e1,ha,hb];apply K
    refine bo rfl ?_;refine aE fun _ K=>?_;simp only[kd];apply K
    (refine aL ⟨.inr rfl,aQ rfl ?_ rfl⟩;simp(disch:=omega) only[kd,Tryz.results207])
   ·subst hab;refine dH bU (by kernel_rfl) fun _ K=>?_;simp(disch:=omega) only[kd,aa,e1,ha,hb];apply K
    refine aU rfl ?_;refine dH bU (by kernel_rfl) fun _ K=>?_;simp(disch:=omega) only[kd,aa,e1,ha,hb];apply K
    refine aU rfl (aR ?_);show bu _ _ _ _;refine aO fun _ K=>?_;simp(disch:=omega) only[kd,aa,aM];apply K
    refine⟨⟨k-1,by omega,Fg ha hb hd'⟩,by simp only;omega,aF trivial ?_⟩;have e2:((k-1:Nat):Int)=(k:Int)-1:=by omega
    simp[wk,e2]
   rw[Dy (s8 lm hb ha hd'.symm hab)];refine dH bU (by kernel_rfl) fun _ K=>?_;simp(disch:=omega) only[kd,aa,e1,ha,hb];apply K
   refine aU rfl ?_;refine dH bU (by kernel_rfl) fun _ K=>?_;simp(disch:=omega) only[kd,aa,e1,ha,hb];apply K
   refine bo rfl ?_;refine aE fun _ K=>?_;simp only[kd];apply K
   (refine aL ⟨.inr rfl,aQ rfl ?_ rfl⟩;simp(disch:=omega) only[kd,Tryz.results207])
  have hk0:k=0:=by omega
  subst hk0;have hlm:l=m:=by simpa using hd
  rw[show mL (natV l) (natV m)=0 by rw[hlm];simp[mL]];refine aG (aE fun _ K=>?_);simp(disch:=omega) only[kd,bS];apply K;refine aU rfl (cK ?_);show bu _ _ _ _;refine aE fun _ K=>?_;simp only[kd];apply K
  (refine aL ⟨.inr rfl,aQ rfl ?_ rfl⟩;simp(disch:=omega) only[kd,Tryz.results207])
 rw[Dy (lV lm cl hgt)];refine aK Tryz.func207 rfl (by kernel_rfl) ?_;rw[Tryz.ntmps207];refine aE fun _ K=>?_;simp only[kd,bS,aa,af];apply K
 refine aG (aP ?_);refine aE fun _ K=>?_;simp(disch:=omega) only[kd,aa];apply K
 refine aU rfl ?_;refine aE fun _ K=>?_;simp(disch:=omega) only[kd,aa];apply K
 refine bo rfl ?_;refine aE fun _ K=>?_;simp only[kd];apply K
 (refine aL ⟨.inr rfl,aQ rfl ?_ rfl⟩;simp(disch:=omega) only[kd,Tryz.results207])
structure Sf (m n:List Nat) (e:Nat) where
 i:Nat
 o:List Nat
 c:Nat
 hi:i<=e
 hc:c<=1
 ho:o.length=i
 h:o++sumL (m.drop i) (n.drop i) c=sumL m n 0
structure Sg (m n:List Nat) where
 j:Nat
 o:List Nat
 c:Nat
 hj:n.length+j<=m.length
 hc:c<=1
 ho:o.length=n.length+j
 h:o++sumL (m.drop (n.length+j)) [] c=sumL m n 0
theorem vH (m n:List Nat) (lm:Lmb m) (ln:Lmb n) (bm:m.length<=536870912) (bn:n.length<=536870912):
  CallC Tryz.prog 170 [bS m,bS n] ⟨[],bS (aY (natV m+natV n))⟩:=by
 refine aK Tryz.func170 rfl (by kernel_rfl) ?_;rw[Tryz.ntmps170];refine aE fun _ K=>?_;simp only[kd,bS,aa,af];apply K
 obtain⟨p,q,hpq,hle⟩: ∃p q:List Nat,((p=m/\q=n/\ ¬m.length<n.length)\/(p=n/\q=m/\m.length<n.length))/\q.length<=p.length:=by
  by_cases h:m.length<n.length
  ·exact⟨n,m,.inr ⟨rfl,rfl,h⟩,by omega⟩
  exact⟨m,n,.inl ⟨rfl,rfl,h⟩,by omega⟩
 refine aG (wK (S:=⟨(bS p::bS q::j16 (j16 (j16 (j16 (j16 (jk::[])))))),Hm []⟩) ?_ ?_)
 ·rcases hpq with⟨rfl,rfl,h⟩|⟨rfl,rfl,h⟩
  ·refine aE fun _ K=>?_;simp(disch:=omega) only[kd,aa];apply K
   refine gT rfl (fun h=>by simp at h<;>omega) (fun _=>aR (aF trivial ?_));simp[wk]
  refine aE fun _ K=>?_;simp(disch:=omega) only[kd,aa];apply K
  refine bo rfl ?_;refine aO fun _ K=>?_;simp only[kd,aa];apply K
  refine aF trivial ?_;simp[wk]
 have hsum:natV m+natV n=natV p+natV q:=by rcases hpq with⟨rfl,rfl,_⟩|⟨rfl,rfl,_⟩<;>omega
 have lp:Lmb p:=by rcases hpq with⟨rfl,rfl,_⟩|⟨rfl,rfl,_⟩<;>assumption
 have lq:Lmb q:=by rcases hpq with⟨rfl,rfl,_⟩|⟨rfl,rfl,_⟩<;>assumption
 have bp:p.length<=536870912:=by rcases hpq with⟨rfl,rfl,_⟩|⟨rfl,rfl,_⟩<;>assumption
 rw[hsum];clear hsum hpq lm ln bm bn;have ep:(p.length:Int)+1=((p.length+1:Nat):Int):=by omega
 refine aE fun _ K=>?_;simp(disch:=omega) only[kd,aa,bS,ep,aM,oJ];apply K
 refine aE fun _ K=>?_;simp only[kd];apply K
 refine aG (aE fun _ K=>?_);simp only[kd,aa];apply K;refine bH (G:=Sf p q q.length) (fun g=>⟨(bS p::bS q::jk::jk::jk::.one (.sl 19 0 0 (p.length+1))::.raw (.int .u64 (g.c:Int))::j4 (j4 (j4 (jk::jk::rN q.length::rN g.i::j16 (j16 (j16 (j4 (j4 (j4 ([])))))))))),Hm [(19,[⟨165,1,lc fU (g.o++af (p.length+1-g.i) 0)⟩])]⟩) (fun g=>q.length-g.i) ⟨0,[],0,by omega,by omega,rfl,rfl⟩ ?_ ?_
 ·refine aF ⟨?_,trivial⟩ ?_
  ·simp[aJ,Hm]
  simp[wk]
 rintro⟨i,o,c,hi,hc,ho,h⟩;simp only;by_cases hm:i<q.length
 ·obtain⟨a,ha⟩:=getElem?_of_lt (show i<p.length by omega);obtain⟨b,hb⟩:=getElem?_of_lt hm;have ha':=cH lp ha;have hb':=cH lq hb;have e1:IntKind.u32.wrap ((c:Int)+((a:Int)+(b:Int)))=(((c+a+b)%4294967296:Nat):Int):=by rw[<- EE];congr 1<;>omega
  have e2:Int.fdiv ((c:Int)+((a:Int)+(b:Int))) (2^(min 32 IntKind.u64.bits))=(((c+a+b)/4294967296:Nat):Int):=by rw[<- Ot];congr 1<;>omega
  have hz:p.length+1-i=(p.length-i)+1:=by omega
  have hg:=qh o (p.length-i);have hs:=nH o (p.length-i) ((c+a+b)%4294967296);rw[ho]at hg hs;rw[hz];refine aE fun _ K=>?_;simp(disch:=omega) only[kd,bS];apply K
  refine cX rfl ?_;refine aG (aP ?_);refine aE fun _ K=>?_;simp only[kd];apply K
  refine dH bU (by kernel_rfl) fun _ K=>?_;simp(disch:=omega) only[kd,aa,ha,dM,hb];apply K
  refine aE fun _ K=>?_;simp(disch:=omega) only[kd,aa,e1,hg,dy,hs];apply K
  refine aO fun _ K=>?_;simp only[kd,aa,Int.reduceLE,an,e2];apply K
  show bu _ _ _ _;refine aO fun _ K=>?_;simp(disch:=omega) only[kd,aM];apply K
  refine⟨⟨i+1,o++[(c+a+b)%4294967296],(c+a+b)/4294967296,by omega,by omega,by simp[ho],?_⟩,by simp only;omega,aF ⟨?_,trivial⟩ ?_⟩
  ·rw[<- h,kA ha,kA hb,sumL,List.append_assoc];rfl
  ·show _=[(⟨_,_,lc fU ((o++[(c+a+b)%4294967296])++af (p.length+1-(i+1)) 0)⟩:OObj)];rw[show p.length+1-(i+1)=p.length-i by omega];rfl
  simp[wk]
 have hin:i=q.length:=by omega
 subst hin;rw[lI (ae _)]at h;refine aE fun _ K=>?_;simp(disch:=omega) only[kd,bS];apply K
 refine di rfl ?_;show bu _ _ _ _;have es:(p.length:Int)-(q.length:Int)=((p.length-q.length:Nat):Int):=by omega
 refine aG (aE fun _ K=>?_);simp(disch:=omega) only[kd,aa,es,aM];apply K;refine bH (G:=Sg p q) (fun g=>⟨(bS p::bS q::jk::jk::jk::.one (.sl 19 0 0 (p.length+1))::.raw (.int .u64 (g.c:Int))::j16 (j16 (j4 (j4 (jk::jk::jk::.raw (.int .i64 ((p.length-q.length:Nat):Int))::rN g.j::j16 (j4 (j4 (j4 (jk::jk::jk::[]))))))))),Hm [(19,[⟨165,1,lc fU (g.o++af (p.length+1-(q.length+g.j)) 0)⟩])]⟩) (fun g=>p.length-q.length-g.j) ⟨0,o,c,by omega,hc,ho,h⟩ ?_ ?_
 ·refine aF ⟨rfl,trivial⟩ ?_;simp[wk]
 clear h ho hc c o;rintro⟨j,o,c,hj,hc,ho,h⟩;simp only;have eNj:(q.length:Int)+(j:Int)=((q.length+j:Nat):Int):=by omega
 by_cases hm2:j<p.length-q.length
 ·obtain⟨a,ha⟩:=getElem?_of_lt (show q.length+j<p.length by omega);have ha':=cH lp ha;have e1:IntKind.u32.wrap ((c:Int)+(a:Int))=(((c+a)%4294967296:Nat):Int):=by rw[<- EE];congr 1<;>omega
  have e2:Int.fdiv ((c:Int)+(a:Int)) (2^(min 32 IntKind.u64.bits))=(((c+a)/4294967296:Nat):Int):=by rw[<- Ot];congr 1<;>omega
  have hz:p.length+1-(q.length+j)=(p.length-(q.length+j))+1:=by omega
  have hg:=qh o (p.length-(q.length+j));have hs:=nH o (p.length-(q.length+j)) ((c+a)%4294967296);rw[ho]at hg hs;rw[hz];refine aE fun _ K=>?_;simp(disch:=omega) only[kd,bS];apply K
  refine cX rfl ?_;refine aG (aP ?_);refine aE fun _ K=>?_;simp only[kd];apply K
  refine aE fun _ K=>?_;simp(disch:=omega) only[kd,aa,eNj,aM,ha,dM];apply K
  refine aE fun _ K=>?_;simp(disch:=omega) only[kd,aa,eNj,aM,e1,hg,dy,hs];apply K
  refine aO fun _ K=>?_;simp only[kd,aa,Int.reduceLE,an,e2];apply K
  show bu _ _ _ _;refine aO fun _ K=>?_;simp(disch:=omega) only[kd,aM];apply K
  refine⟨⟨j+1,o++[(c+a)%4294967296],(c+a)/4294967296,by omega,by omega,by simp[ho];omega,?_⟩,by simp only;omega,aF ⟨?_,trivial⟩ ?_⟩
  ·rw[<- h,kA ha,sumL,List.append_assoc];rfl
  ·show _=[(⟨_,_,lc fU ((o++[(c+a)%4294967296])++af (p.length+1-(q.length+(j+1))) 0)⟩:OObj)];rw[show p.length+1-(q.length+(j+1))=p.length-(q.length+j) by omega];rfl
  simp[wk]
 have hje:q.length+j=p.length:=by omega
 rw[hje]at h ho;rw[lI (ae _),sumL]at h;have e1:IntKind.u32.wrap (c:Int)=(c:Int):=by rw[EE];omega
 have hz:p.length+1-(q.length+j)=0+1:=by omega
 have hg:=qh o 0;have hs:=nH o 0 c;rw[ho]at hg hs;rw[List.replicate_zero,List.append_nil,h]at hs;have hsl:(sumL p q 0).length=p.length+1:=by rw[pw];omega
 have hlm:=oK p q 0 lp lq (by omega);have ht:=dO (sumL p q 0) (by omega);rw[ja hlm,my,Nat.add_zero]at ht;rw[hz];generalize sumL p q 0=S at*
 refine aE fun _ K=>?_;simp(disch:=omega) only[kd,bS];apply K
 refine di rfl ?_;show bu _ _ _ _;refine aE fun _ K=>?_;simp(disch:=omega) only[kd,aa,e1,hg,dy,hs];apply K
 refine bu.weak ((dF 19 (dR rfl)).trans (aF (tm:=(j4 (jk::bS S::j16 (j16 (j16 (j16 (j4 (j4 (j4 (jk::[])))))))))) (l:=[]) trivial (by simp[wk,eZ,dI,aJ,Hm,gQ,ij,List.take_of_length_le,hsl]))) ?_;refine aI [⟨1,_,_,_,ht⟩] [] fun _ K=>?_;simp only[kd,bS,aa];apply K
 (refine aL ⟨.inr rfl,aQ rfl ?_ rfl⟩;simp(disch:=omega) only[kd,Tryz.results170,bS])
theorem pQ (m n:List Nat) (lm:Lmb m) (ln:Lmb n) (hl:n.length<=m.length) (hle:natV n<=natV m) (bm:m.length<=536870912):
  CallC Tryz.prog 171 [bS m,bS n] ⟨[],bS (aY (natV m-natV n))⟩:=by
 refine aK Tryz.func171 rfl (by kernel_rfl) ?_;rw[Tryz.ntmps171];refine aE fun _ K=>?_;simp only[kd,bS,aa,af];apply K
 refine aE fun _ K=>?_;simp(disch:=omega) only[kd,aa,oJ];apply K
 refine aE fun _ K=>?_;simp only[kd];apply K
 refine aG (aE fun _ K=>?_);simp only[kd,aa];apply K;refine bH (G:=Sk m n) (fun g=>⟨(bS m::bS n::jk::jk::jk::.one (.sl 11 0 0 m.length)::.raw (.int .u64 (g.c:Int))::j4 (jk::jk::rN m.length::rN g.i::j16 (j4 (j4 (j4 (jk::jk::[])))))),Hm [(11,[⟨165,1,lc fU (g.o++af (m.length-g.i) 0)⟩])]⟩) (fun g=>m.length-g.i) ⟨0,[],0,by omega,by omega,rfl,rfl⟩ ?_ ?_
 ·refine aF ⟨?_,trivial⟩ ?_
  ·simp[aJ,Hm]
  simp[wk]
 rintro⟨i,o,c,hi,hc,ho,h⟩;simp only;by_cases hm:i<m.length
 ·obtain⟨a,ha⟩:=getElem?_of_lt hm;have ha':=cH lm ha;have hz:m.length-i=(m.length-i-1)+1:=by omega
  have hg:=qh o (m.length-i-1);rw[ho]at hg;rw[hz];refine aE fun _ K=>?_;simp(disch:=omega) only[kd,bS];apply K
  refine cX rfl ?_;refine aG (aP ?_);refine aE fun _ K=>?_;simp only[kd];apply K
  refine aE fun _ K=>?_;simp(disch:=omega) only[kd,aa,ha,dM];apply K
  by_cases hn:i<n.length
  ·obtain⟨b,hb⟩:=getElem?_of_lt hn;have hb':=cH ln hb;have e1:IntKind.u32.wrap (IntKind.u64.wrap (IntKind.u64.wrap ((a:Int)-(c:Int))-(b:Int)))=(((a+8589934592-(c+b))%4294967296:Nat):Int):=by rw[IntKind.wrap_u32,IntKind.wrap_u64,IntKind.wrap_u64];omega
   have e2:Int.fdiv (IntKind.u64.wrap (IntKind.u64.wrap ((a:Int)-(c:Int))-(b:Int))) (2^(min 63 IntKind.u64.bits))=(((if a<c+b then 1 else 0):Nat):Int):=by
    rw[IntKind.wrap_u64,IntKind.wrap_u64];show Int.fdiv _ 9223372036854775808=_;rw[Int.fdiv_eq_ediv_of_nonneg _ (by omega)];split<;>omega
   have hs:=nH o (m.length-i-1) ((a+8589934592-(c+b))%4294967296);rw[ho]at hs;refine aG (aE fun _ K=>?_);simp(disch:=omega) only[kd,aa];apply K;refine bo rfl ?_;refine aO fun _ K=>?_;simp(disch:=omega) only[kd,aa,hb,dM];apply K
   show bu _ _ _ _;refine aE fun _ K=>?_;simp(disch:=omega) only[kd,aa,e1,hg,dy,hs];apply K
   refine aO fun _ K=>?_;simp only[kd,aa,Int.reduceLE,an,e2];apply K
   show bu _ _ _ _;refine aO fun _ K=>?_;simp(disch:=omega) only[kd,aM];apply K
   refine⟨⟨i+1,o++[(a+8589934592-(c+b))%4294967296],if a<c+b then 1 else 0,by omega,by split<;>omega,by simp[ho],?_⟩,by simp only;omega,aF ⟨?_,trivial⟩ ?_⟩
   ·rw[<- h,kA ha,kA hb,diffL,List.append_assoc];rfl
   ·show _=[(⟨_,_,lc fU ((o++[(a+8589934592-(c+b))%4294967296])++af (m.length-(i+1)) 0)⟩:OObj)];rw[show m.length-(i+1)=m.length-i-1 by omega];rfl
   simp[wk]
  have e1:IntKind.u32.wrap (IntKind.u64.wrap ((a:Int)-(c:Int)))=(((a+8589934592-c)%4294967296:Nat):Int):=by rw[IntKind.wrap_u32,IntKind.wrap_u64];omega
  have e2:Int.fdiv (IntKind.u64.wrap ((a:Int)-(c:Int))) (2^(min 63 IntKind.u64.bits))=(((if a<c then 1 else 0):Nat):Int):=by
   rw[IntKind.wrap_u64];show Int.fdiv _ 9223372036854775808=_;rw[Int.fdiv_eq_ediv_of_nonneg _ (by omega)];split<;>omega
  have hs:=nH o (m.length-i-1) ((a+8589934592-c)%4294967296);rw[ho]at hs;refine aG (aE fun _ K=>?_);simp(disch:=omega) only[kd,aa];apply K;refine aU rfl (aR ?_);show bu _ _ _ _;refine aE fun _ K=>?_;simp(disch:=omega) only[kd,aa,e1,hg,dy,hs];apply K
  refine aO fun _ K=>?_;simp only[kd,aa,Int.reduceLE,an,e2];apply K
  show bu _ _ _ _;refine aO fun _ K=>?_;simp(disch:=omega) only[kd,aM];apply K
  refine⟨⟨i+1,o++[(a+8589934592-c)%4294967296],if a<c then 1 else 0,by omega,by split<;>omega,by simp[ho],?_⟩,by simp only;omega,aF ⟨?_,trivial⟩ ?_⟩
  ·rw[<- h,kA ha,lI (by omega:n.length<=i),lI (by omega:n.length<=i+1),diffL,List.append_assoc];rfl
  ·show _=[(⟨_,_,lc fU ((o++[(a+8589934592-c)%4294967296])++af (m.length-(i+1)) 0)⟩:OObj)];rw[show m.length-(i+1)=m.length-i-1 by omega];rfl
  simp[wk]
 have hie:i=m.length:=by omega
 subst hie;rw[lI (ae _),diffL,List.append_nil]at h;rw[Nat.sub_self,List.replicate_zero,List.append_nil,h];have hsl:(diffL m n 0).length=m.length:=pM m n 0;have hlm:=pU m n 0;have hv:=ny m n 0 lm ln (by omega) hl (by omega);have ht:=dO (diffL m n 0) (by omega);rw[ja hlm,show natV (diffL m n 0)=natV m-natV n by omega]at ht;generalize diffL m n 0=S at*
 refine aE fun _ K=>?_;simp(disch:=omega) only[kd,bS];apply K
 refine di rfl ?_;show bu _ _ _ _;refine bu.weak ((dF 11 (dR rfl)).trans (aF (tm:=(j4 (jk::bS S::j16 (j16 (j4 (jk::jk::jk::[])))))) (l:=[]) trivial (by simp[wk,eZ,dI,aJ,Hm,gQ,ij,List.take_of_length_le,hsl]))) ?_;refine aI [⟨1,_,_,_,ht⟩] [] fun _ K=>?_;simp only[kd,bS,aa];apply K
 (refine aL ⟨.inr rfl,aQ rfl ?_ rfl⟩;simp(disch:=omega) only[kd,Tryz.results171,bS])
theorem FI {A B:List Nat} (g:Hh A B) (h:A[g.i]?=some 0): ∃g':Hh A B,g'.i=g.i+1/\g'.O=g.O:=by
 refine⟨⟨g.i+1,g.O,(List.getElem?_eq_some_iff.1 h).1,g.len,g.lmb,?_,fun k h1 h2=>g.zero k (by omega) h2⟩,rfl,rfl⟩;rw[bv h,g.val];simp
theorem Fv (A B:List Nat) (hlA:Lmb A) (hlB:Lmb B) (la:A.length<=536870912) (lb:B.length<=536870912):CallC Tryz.prog 168 [bS A,bS B] ⟨[],bS (aY (natV A*natV B))⟩:=by
 by_cases hsm:A.length<=1/\B.length<=1
 ·have hsm1:=hsm.1;have hsm2:=hsm.2;have w1:=oF A hlA (by omega);have w2:=oF B hlB (by omega);have b1:natV A<4294967296:=by
   have:=f8 hlA;exact Nat.lt_of_lt_of_le this (by have:=aD (n:=4294967296) (by omega) hsm1;simpa using this)
  have b2:natV B<4294967296:=by
   have:=f8 hlB;exact Nat.lt_of_lt_of_le this (by have:=aD (n:=4294967296) (by omega) hsm2;simpa using this)
  have hb:=pX b1 b2;have w3:=ig (natV A*natV B) (by omega);have e2:(natV A:Int)*(natV B:Int)=((natV A*natV B:Nat):Int):=by simp
  generalize natV A*natV B=p at*
  refine aK Tryz.func168 rfl (by kernel_rfl) ?_;rw[Tryz.ntmps168];refine aE fun _ K=>?_;simp only[kd,bS,aa,af];apply K
  refine aG (aE fun _ K=>?_);simp(disch:=omega) only[kd,aa];apply K;refine bo rfl ?_;refine aI [⟨1,_,_,_,w1⟩,⟨3,_,_,_,w2⟩,⟨5,_,_,_,w3⟩] [] fun _ K=>?_;simp(disch:=omega) only[kd,bS,aa,ag,e2,dM];apply K
  (refine aL ⟨.inr rfl,aQ rfl ?_ rfl⟩;simp(disch:=omega) only[kd,Tryz.results168,bS])
 have e0:((A.length:Int)+(B.length:Int)).toNat=A.length+B.length:=by omega
 refine aK Tryz.func168 rfl (by kernel_rfl) ?_;rw[Tryz.ntmps168];refine aE fun _ K=>?_;simp only[kd,bS,aa,af];apply K
 refine aG (wK (S:=⟨(bS A::bS B::j16 (j16 (j16 (j16 (j16 (j4 ([]))))))),Hm []⟩) ?_ ?_)
 ·by_cases h1:A.length<=1
  ·refine aE fun _ K=>?_;simp(disch:=omega) only[kd,aa];apply K
   refine gT rfl (fun h=>by simp at h<;>omega) (fun _=>aR (aF trivial ?_));simp[wk]
  refine aE fun _ K=>?_;simp(disch:=omega) only[kd,aa];apply K
  refine gT rfl (fun h=>by simp at h<;>omega) (fun _=>aR (aF trivial ?_));simp[wk]
 refine aE fun _ K=>?_;simp(disch:=omega) only[kd,aa,bS,aM,e0,oJ];apply K
 refine aG (aE fun _ K=>?_);simp only[kd,aa];apply K;refine bH (G:=Hh A B) (fun g=>⟨(bS A::bS B::jk::jk::jk::.one (.sl 31 0 0 (A.length+B.length))::j16 (j4 (j4 (jk::jk::bS A::rN A.length::rN g.i::j16 (j16 (j16 (jk::jk::jk::[]))))))),Hm [(31,[⟨165,1,lc fU g.O⟩])]⟩) (fun g=>A.length-g.i) ⟨0,af (A.length+B.length) 0,by omega,by simp,fun x hx=>by simp at hx;omega,by simp[Jz,natV],fun k h1 h2=>by rw[List.getElem?_replicate,if_pos h2]⟩ ?_ ?_
 ·refine aF ⟨rfl,trivial⟩ ?_;simp[wk]
 rintro⟨i,O,hi,len,lmb,val,zero⟩;simp only;by_cases hm:i<A.length
 ·obtain⟨x,hx⟩:=getElem?_of_lt hm;have hx':=cH hlA hx;refine aE fun _ K=>?_;simp(disch:=omega) only[kd,bS];apply K
  refine cX rfl ?_;refine aG (aP ?_);refine aE fun _ K=>?_;simp(disch:=omega) only[kd,aa,hx];apply K
  by_cases hx0:x=0
  ·subst hx0;obtain⟨g',q1,q2⟩:=FI (⟨i,O,hi,len,lmb,val,zero⟩:Hh A B) hx;simp only at q1 q2;refine aG (aE fun _ K=>?_);simp(disch:=omega) only[kd];apply K;refine bo rfl (cK ?_);show bu _ _ _ _;refine aO fun _ K=>?_;simp(disch:=omega) only[kd,aM];apply K
   refine⟨g',by omega,aF ⟨by rw[q2];rfl,trivial⟩ ?_⟩;simp[wk,q1]
  have es:(i:Int)+(B.length:Int)+1=((i+B.length+1:Nat):Int):=by omega
  have el:i+B.length+1-i=B.length+1:=by omega
  refine aG (aE fun _ K=>?_);simp(disch:=omega) only[kd];apply K;refine aU rfl (aR ?_);show bu _ _ _ _;refine aE fun _ K=>?_;simp(disch:=omega) only[kd,aa,aM,es,el];apply K
  refine aE fun _ K=>?_;simp only[kd];apply K
  refine aG (aE fun _ K=>?_);simp only[kd,aa];apply K;refine bH (G:=Ls A B i x) (fun g=>⟨(bS A::bS B::jk::jk::jk::.one (.sl 31 0 0 (A.length+B.length))::jk::.raw (.int .u32 (x:Int))::.one (.sl 31 0 i (B.length+1))::.raw (.int .u64 (g.c:Int))::j16 (j4 (jk::jk::bS A::rN A.length::rN i::j4 (j4 (j4 (jk::jk::bS B::rN B.length::rN g.j::j16 (j16 (jk::jk::[])))))))),Hm [(31,[⟨165,1,lc fU g.O⟩])]⟩) (fun g=>B.length-g.j) ⟨0,O,0,by omega,len,lmb,by omega,by simpa[natV] using val,zero⟩ ?_ ?_
  ·refine aF ⟨rfl,trivial⟩ ?_;simp[wk]
  intro g;by_cases hn:g.j<B.length
  ·obtain⟨y,hy⟩:=getElem?_of_lt hn;have hy':=cH hlB hy;have hlen:=g.len;obtain⟨o,ho⟩:=getElem?_of_lt (show i+g.j<g.O.length by omega);have ho':=cH g.lmb ho;have hb:=pX hx' hy';have hgc:=g.hc;obtain⟨g',q1,q2,q3⟩:=FH g hy ho hm hx' hy';have e2:(x:Int)*(y:Int)=((x*y:Nat):Int):=by simp
   generalize hp:x*y=p at*
   have e3:IntKind.u32.wrap ((g.c:Int)+((p:Int)+(o:Int)))=(((g.c+(p+o))%4294967296:Nat):Int):=by rw[<- EE];congr 1<;>omega
   have e4:Int.fdiv ((g.c:Int)+((p:Int)+(o:Int))) (2^(min 32 IntKind.u64.bits))=(((g.c+(p+o))/4294967296:Nat):Int):=by rw[<- Ot];congr 1<;>omega
   refine aE fun _ K=>?_;simp(disch:=omega) only[kd,bS];apply K
   refine cX rfl ?_;refine aG (aP ?_);refine aE fun _ K=>?_;simp(disch:=omega) only[kd,aa,hy];apply K
   refine aE fun _ K=>?_;simp(disch:=omega) only[kd,aa,dM,e2,ho];apply K
   refine aE fun _ K=>?_;simp(disch:=omega) only[kd,aa,e3,ho,dy];apply K
   refine aO fun _ K=>?_;simp only[kd,aa,Int.reduceLE,an,e4];apply K
   show bu _ _ _ _;refine aO fun _ K=>?_;simp(disch:=omega) only[kd,aM];apply K
   refine⟨g',by omega,aF ⟨by rw[q2];rfl,trivial⟩ ?_⟩;simp[wk,q1,q3]
  have hgj:=g.hj;have hgc:=g.hc;have hgl:=g.len;obtain⟨g',q1,q2⟩:=FG hx g hn;have e3:IntKind.u32.wrap (g.c:Int)=(g.c:Int):=by rw[EE];omega
  refine aE fun _ K=>?_;simp(disch:=omega) only[kd,bS];apply K
  refine di rfl ?_;show bu _ _ _ _;have hz:=g.zero (i+B.length) (ae _) (by omega);refine aO fun _ K=>?_;simp(disch:=omega) only[kd,aa,e3,hz,dy];apply K
  show bu _ _ _ _;refine aO fun _ K=>?_;simp(disch:=omega) only[kd,aM];apply K
  refine⟨g',by omega,aF ⟨by rw[q2];rfl,trivial⟩ ?_⟩;simp[wk,q1]
 have hfin:natV O=natV A*natV B:=by
  have:i=A.length:=by omega
  rw[val,this,List.take_length]
 have ht:=dO O (by omega);rw[ja lmb,hfin]at ht;refine aE fun _ K=>?_;simp(disch:=omega) only[kd,bS];apply K
 refine di rfl ?_;show bu _ _ _ _;refine bu.weak ((dF 31 (dR rfl)).trans (aF (tm:=(j4 (jk::bS O::j16 (j16 (j16 (j16 (j16 ([])))))))) (l:=[]) trivial (by simp[wk,eZ,dI,aJ,Hm,gQ,ij,List.take_of_length_le,len]))) ?_;refine aI [⟨1,_,_,_,ht⟩] [] fun _ K=>?_;simp only[kd,bS,aa];apply K
 (refine aL ⟨.inr rfl,aQ rfl ?_ rfl⟩;simp(disch:=omega) only[kd,Tryz.results168,bS])
/-! Signed numbers. -/
theorem Im {a b:Nat}:0<=mL a b↔b<=a:=by unfold mL;split<;>(try split)<;>omega
theorem Cz {na nb:Bool} {a b:Nat} (h:na≠nb) (hle:b<=a):iq na (a-b)=iq na a+iq nb b:=by
 unfold iq;cases na<;>cases nb<;>simp at* <;>omega
theorem CA {na nb:Bool} {a b:Nat} (h:na≠nb) (hle:a<=b):iq nb (b-a)=iq na a+iq nb b:=by
 unfold iq;cases na<;>cases nb<;>simp at* <;>omega
theorem Ng (n:Bool) (a b:Nat):iq n (a+b)=iq n a+iq n b:=by unfold iq;cases n<;>simp<;>omega
theorem xh (na nb:Bool) (a b:Nat) (la:(aY a).length<=536870912) (lb:(aY b).length<=536870912):CallC Tryz.prog 166 [.raw (.bool na),bS (aY a),.raw (.bool nb),bS (aY b)] ⟨[],tZ (iq na a+iq nb b)⟩:=by
 by_cases hs:na=nb
 ·subst hs;have h1:=vH (aY a) (aY b) (bK _) (bK _) la lb;rw[a8,a8]at h1;have h2:=dS na (a+b);rw[Ng]at h2;refine aK Tryz.func166 rfl (by kernel_rfl) ?_;rw[Tryz.ntmps166];refine aE fun _ K=>?_;simp(disch:=omega) only[kd,bS,aa,af];apply K
  refine aG (aP ?_);refine aE fun _ K=>?_;simp only[kd,aa];apply K
  refine bo rfl ?_;refine aI [⟨3,_,_,_,h1⟩,⟨4,_,_,_,h2⟩] [] fun _ K=>?_;simp(disch:=omega) only[kd,bS,tZ,aa,ag];apply K
  (refine aL ⟨.inr rfl,aQ rfl ?_ rfl⟩;simp(disch:=omega) only[kd,Tryz.results166,aa,tZ])
 have hne:(na==nb)=false:=by simpa using hs
 have h0:=sK (aY a) (aY b) (bK _) (bK _) (dD _) (dD _) (by omega) (by omega);rw[a8,a8]at h0;have hge:=Im (a:=a) (b:=b);by_cases hle:b<=a
 ·have h1:=pQ (aY a) (aY b) (bK _) (bK _) (lU (bK _) (dD _) (by rw[a8,a8];exact hle)) (by rw[a8,a8];exact hle) la;rw[a8,a8]at h1;have h2:=dS na (a-b);rw[Cz hs hle]at h2;have hc:0<=mL a b:=hge.2 hle;generalize mL a b=cv at*
  refine aK Tryz.func166 rfl (by kernel_rfl) ?_;rw[Tryz.ntmps166];refine aE fun _ K=>?_;simp(disch:=omega) only[kd,bS,aa,af];apply K
  refine aG (aP ?_);refine aE fun _ K=>?_;simp only[kd,aa,hne];apply K
  refine aU rfl ?_;refine aI [⟨2,_,_,_,h0⟩] [] fun _ K=>?_;simp(disch:=omega) only[kd,bS,aa];apply K
  refine bo rfl ?_;refine aI [⟨3,_,_,_,h1⟩,⟨4,_,_,_,h2⟩] [] fun _ K=>?_;simp(disch:=omega) only[kd,bS,tZ,aa,ag];apply K
  (refine aL ⟨.inr rfl,aQ rfl ?_ rfl⟩;simp(disch:=omega) only[kd,Tryz.results166,aa,tZ])
 have h1:=pQ (aY b) (aY a) (bK _) (bK _) (lU (bK _) (dD _) (by rw[a8,a8];omega)) (by rw[a8,a8];omega) lb;rw[a8,a8]at h1;have h2:=dS nb (b-a);rw[CA hs (by omega)]at h2;have hc: ¬0<=mL a b:=fun h=>hle (hge.1 h)
 generalize mL a b=cv at*
 refine aK Tryz.func166 rfl (by kernel_rfl) ?_;rw[Tryz.ntmps166];refine aE fun _ K=>?_;simp(disch:=omega) only[kd,bS,aa,af];apply K
 refine aG (aP ?_);refine aE fun _ K=>?_;simp only[kd,aa,hne];apply K
 refine aU rfl ?_;refine aI [⟨2,_,_,_,h0⟩] [] fun _ K=>?_;simp(disch:=omega) only[kd,bS,aa];apply K
 refine aU rfl (aR ?_);show bu _ _ _ _;refine aI [⟨3,_,_,_,h1⟩,⟨4,_,_,_,h2⟩] [] fun _ K=>?_;simp(disch:=omega) only[kd,bS,tZ,aa,ag];apply K
 (refine aL ⟨.inr rfl,aQ rfl ?_ rfl⟩;simp(disch:=omega) only[kd,Tryz.results166,aa,tZ])
theorem PE (a b:Int) (ha:Bh a) (hb:Bh b):CallC Tryz.prog 118 [tZ a,tZ b] ⟨[],tZ (a-b)⟩:=by
 have t1:=dO (aY a.natAbs) ha.bg.len;have t2:=dO (aY b.natAbs) hb.bg.len;rw[mK]at t1 t2;have h:=xh (decide (a<0)) (!decide (b<0)) a.natAbs b.natAbs ha.len hb.len;rw[D8,PU,<- Int.sub_eq_add_neg]at h;refine aK Tryz.func118 rfl (by kernel_rfl) ?_;rw[Tryz.ntmps118];refine aE fun _ K=>?_;simp(disch:=omega) only[kd,aa,tZ,af,ab];apply K
 refine gp bU [⟨4,_,_,_,t1⟩,⟨10,_,_,_,t2⟩,⟨11,_,_,_,h⟩] [] (by kernel_rfl) fun _ K=>?_;simp(disch:=omega) only[kd,bS,tZ,aa,ab,ag];apply K
 (refine aL ⟨.inr rfl,aQ rfl ?_ rfl⟩;simp(disch:=omega) only[kd,Tryz.results118,ab,aa,tZ])
theorem IP (a b:Int) (ha:Bh a) (hb:Bh b):CallC Tryz.prog 119 [tZ a,tZ b] ⟨[],tZ (a*b)⟩:=by
 have t1:=dO (aY a.natAbs) ha.bg.len;have t2:=dO (aY b.natAbs) hb.bg.len;rw[mK]at t1 t2;have h:=Fv (aY a.natAbs) (aY b.natAbs) (bK _) (bK _) ha.len hb.len;rw[a8,a8]at h;have h2:=dS (!(decide (a<0)==decide (b<0))) (a.natAbs*b.natAbs);rw[MD]at h2;refine aK Tryz.func119 rfl (by kernel_rfl) ?_;rw[Tryz.ntmps119];refine aE fun _ K=>?_;simp(disch:=omega) only[kd,aa,tZ,af,ab];apply K
 refine gp bU [⟨7,_,_,_,t1⟩,⟨10,_,_,_,t2⟩,⟨11,_,_,_,h⟩,⟨12,_,_,_,h2⟩] [] (by kernel_rfl) fun _ K=>?_;simp(disch:=omega) only[kd,bS,tZ,aa,ab,ag];apply K
 (refine aL ⟨.inr rfl,aQ rfl ?_ rfl⟩;simp(disch:=omega) only[kd,Tryz.results119,ab,aa,tZ])
theorem RF {U V L v1 high q : Nat} (hV : v1 * 4294967296 * L <= V) (hU : U < (high + 1) * 4294967296 * L) (hq : q * V <= U) (hL : 0 < L) : q * v1 <= high := by
  have h1 : q * (v1 * 4294967296 * L) <= q * V := Nat.mul_le_mul_left _ hV;have h2 : (q * v1) * (4294967296 * L) < (high + 1) * (4294967296 * L) := by
    calc (q * v1) * (4294967296 * L) = q * (v1 * 4294967296 * L) := by grind
      _ <= q * V := h1
      _ <= U := hq
      _ < (high + 1) * 4294967296 * L := hU
      _ = (high + 1) * (4294967296 * L) := by grind
  have := Nat.lt_of_mul_lt_mul_right h2;omega
theorem RE {U V L v1 v2 u0 high g r q : Nat} (hV : (v1 * 4294967296 + v2) * L <= V) (hU : U < (high * 4294967296 + u0 + 1) * L) (hq : q * V <= U) (hg : g * v1 + r = high) (h : r * 4294967296 + u0 < g * v2) : q < g := by
  by_cases hc : q < g
  · exact hc
  · exfalso
    have h1 : g * ((v1 * 4294967296 + v2) * L) <= U := Nat.le_trans (Nat.mul_le_mul (Nat.le_of_not_lt hc) hV) hq;have h2 : (g * (v1 * 4294967296 + v2)) * L < (high * 4294967296 + u0 + 1) * L := by
      calc (g * (v1 * 4294967296 + v2)) * L = g * ((v1 * 4294967296 + v2) * L) := by grind
        _ <= U := h1
        _ < _ := hU
    have h3 := Nat.lt_of_mul_lt_mul_right h2;have h4 : g * (v1 * 4294967296 + v2) = g * v1 * 4294967296 + g * v2 := by grind
    have h5 : high * 4294967296 = g * v1 * 4294967296 + r * 4294967296 := by rw [<- hg]; grind
    omega
theorem Mo {U V L vl v1 v2 t3 g q : Nat} (hV : V = (v1 * 4294967296 + v2) * L + vl) (hvl : vl < L) (hU : t3 * L <= U) (hq : U < (q + 1) * V) (hg : g * (v1 * 4294967296 + v2) <= t3) (hB : g <= 4294967296) (hv1 : 1 <= v1) : g <= q + 1 := by
  have h1 : g * V <= U + g * vl := by
    calc g * V = (g * (v1 * 4294967296 + v2)) * L + g * vl := by rw [hV]; grind
      _ <= t3 * L + g * vl := Nat.add_le_add_right (Nat.mul_le_mul_right _ hg) _
      _ <= _ := Nat.add_le_add_right hU _
  have h2 : g * vl <= 4294967296 * L := Nat.mul_le_mul hB (Nat.le_of_lt hvl);have h3 : 4294967296 * L <= V := by
    rw [hV];have : 4294967296 * L <= (v1 * 4294967296 + v2) * L := Nat.mul_le_mul_right _ (by omega);omega
  have h4 : g * V < (q + 2) * V := by
    calc g * V <= U + V := by omega
      _ < (q + 1) * V + V := by omega
      _ = (q + 2) * V := by grind
  have := Nat.lt_of_mul_lt_mul_right h4;omega
structure Lh (u v:List Nat) (g:Nat) where
 i:Nat
 us:List Nat
 c:Nat
 b:Nat
 hi:i<=v.length
 len:us.length=i
 lmb:Lmb us
 hc:c<4294967296
 hb:b<=1
 val:natV us+g*natV (v.take i)=natV (u.take i)+(c+b)*4294967296^i
def Lh.start (u v:List Nat) (g:Nat):Lh u v g:=⟨0,[],0,0,Nat.zero_le _,rfl,fun a h=>by simp at h,by omega,by omega,by simp[natV]⟩
theorem mw (l:List Nat) (a:Nat):natV (l++[a])=natV l+a*4294967296^l.length:=by
 rw[ik];simp[natV];grind
theorem lR {l:List Nat} {a:Nat} (h:Lmb l) (ha:a<4294967296):Lmb (l++[a]):=fun x hx=>by
 rcases List.mem_append.1 hx with h1|h1
 ·exact h x h1
 simp at h1;omega
theorem zI {g x c:Nat} (hg:g<=4294967296) (hx:x<4294967296) (hc:c<4294967296):c+g*x<18446744073709551616/\(c+g*x)/4294967296<4294967296:=by
 have:g*x<=4294967296*4294967295:=Nat.mul_le_mul hg (by omega);omega
theorem MC {u v:List Nat} {g:Nat} (m:Lh u v g) {x y l b':Nat} (hg:g<=4294967296) (hx:v[m.i]?=some x) (hy:u[m.i]?=some y) (lv:Lmb v) (hl:l<4294967296) (hb':b'<=1)
  (ht:l+(m.c+g*x)%4294967296+m.b=y+b'*4294967296): ∃m':Lh u v g,m'.i=m.i+1/\m'.us=m.us++[l]/\m'.c=(m.c+g*x)/4294967296/\m'.b=b':=by
 have hx':=cH lv hx;refine⟨⟨m.i+1,m.us++[l],(m.c+g*x)/4294967296,b',?_,by rw[List.length_append,m.len];rfl,lR m.lmb hl,(zI hg hx' m.hc).2,hb',?_⟩,rfl,rfl,rfl,rfl⟩
 ·have:=(List.getElem?_eq_some_iff.1 hx).1;omega
 have hv:=m.val;rw[mw,m.len,bv hx,bv hy,Nat.pow_succ];have hs:m.c+g*x=(m.c+g*x)%4294967296+4294967296*((m.c+g*x)/4294967296):=by omega
 generalize(m.c+g*x)%4294967296=lo at*
 generalize(m.c+g*x)/4294967296=hi' at*
 generalize 4294967296^m.i=p at*
 have h1:g*(natV (v.take m.i)+x*p)=g*natV (v.take m.i)+g*x*p:=by grind
 have h2:g*x=lo+4294967296*hi'-m.c:=by omega
 have h3:(l+lo+m.b)*p=(y+b'*4294967296)*p:=by rw[ht]
 have h4:(m.c+g*x)*p=(lo+4294967296*hi')*p:=by rw[hs]
 grind
structure Lm (u v:List Nat) where
 i:Nat
 us:List Nat
 c:Nat
 hi:i<=v.length
 len:us.length=i
 lmb:Lmb us
 hc:c<=1
 val:natV us+c*4294967296^i=natV (u.take i)+natV (v.take i)
def Lm.start (u v:List Nat):Lm u v:=⟨0,[],0,Nat.zero_le _,rfl,fun a h=>by simp at h,by omega,by simp[natV]⟩
theorem LI {u v:List Nat} (m:Lm u v) {x y:Nat} (hx:v[m.i]?=some x) (hy:u[m.i]?=some y) (lv:Lmb v) (lu:Lmb u):
  ∃m':Lm u v,m'.i=m.i+1/\m'.us=m.us++[(m.c+(y+x))%4294967296]/\m'.c=(m.c+(y+x))/4294967296:=by
 have hx':=cH lv hx;have hy':=cH lu hy;have hc:=m.hc;refine⟨⟨m.i+1,m.us++[(m.c+(y+x))%4294967296],(m.c+(y+x))/4294967296,?_,by rw[List.length_append,m.len];rfl,lR m.lmb (Nat.mod_lt _ (by omega)),by omega,?_⟩,rfl,rfl,rfl⟩
 ·have:=(List.getElem?_eq_some_iff.1 hx).1;omega
 have hv:=m.val;rw[mw,m.len,bv hx,bv hy,Nat.pow_succ];have hs:m.c+(y+x)=(m.c+(y+x))%4294967296+4294967296*((m.c+(y+x))/4294967296):=by omega
 generalize(m.c+(y+x))%4294967296=lo at*
 generalize(m.c+(y+x))/4294967296=hi' at*
 generalize 4294967296^m.i=p at*
 have h4:(m.c+(y+x))*p=(lo+4294967296*hi')*p:=by rw[hs]
 grind
theorem IY {U V g q R:Nat} (hq:q=U/V) (hg:q<=g) (h:R+g*V=U) (hV:0<V):g=q/\R=U%V:=by
 have h1:g<=U/V:=(Nat.le_div_iff_mul_le hV).2 (by omega);have h2:g=q:=by omega
 refine⟨h2,?_⟩;have:=Nat.div_add_mod U V;rw[<- hq,<- h2,Nat.mul_comm]at this;omega
theorem Mn {U V g q R T Bn c t W:Nat} (hq:q=U/V) (hg:g<=q+1) (h:R+g*V=U+4294967296*Bn) (hlt:U<g*V) (hV:0<V) (hVB:V<=Bn) (hW:W<Bn)
  (hR:R=T+t*Bn) (ht:W+c*Bn=T+V) (hc:c<=1) (htt:t<4294967296):g=q+1/\(t+c)%4294967296=0/\W=U%V:=by
 have h1:g=q+1:=by
  by_cases hh:g=q+1
  ·exact hh
  exfalso;have:g*V<=(U/V)*V:=Nat.mul_le_mul_right _ (by omega);have:=Nat.div_mul_le_self U V;omega
 have h2:=Nat.div_add_mod U V;have h3:=Nat.mod_lt U hV;rw[<- hq]at h2;subst h1;have h4:(q+1)*V=V*q+V:=by grind
 have h5:W+(t+c)*Bn=U%V+4294967296*Bn:=by
  have:(t+c)*Bn=t*Bn+c*Bn:=by grind
  omega
 have h6:t+c=4294967296:=by
  rcases Nat.lt_trichotomy (t+c) 4294967296 with hh|hh|hh
  ·exfalso;have:(t+c)*Bn+Bn<=4294967296*Bn:=by
    have:=Nat.mul_le_mul_right Bn (show t+c+1<=4294967296 by omega);have e:(t+c+1)*Bn=(t+c)*Bn+Bn:=by grind
    omega
   omega
  ·exact hh
  omega
 refine⟨rfl,by rw[h6],?_⟩;rw[h6]at h5;omega
def bL:Nat->Nat->List Nat
 |0,_=>[]
 |n+1,x=>x%4294967296::bL n (x/4294967296)
theorem bE: ∀n x,(bL n x).length=n
 |0,_=>rfl
 |n+1,x=>by simp[bL,bE n]
theorem lQ: ∀n x,Lmb (bL n x)
 |0,_=>fun a h=>by simp[bL]at h
 |n+1,x=>by rw[bL,d7];exact⟨Nat.mod_lt _ (by omega),lQ n _⟩
theorem vO: ∀n x,natV (bL n x)=x%4294967296^n
 |0,x=>by simp[bL,natV,Nat.mod_one]
 |n+1,x=>by
  rw[bL,natV,vO n,Nat.pow_succ,Nat.mul_comm (4294967296^n),Nat.mod_mul]
theorem fd {n x:Nat} (h:x<4294967296^n):natV (bL n x)=x:=by rw[vO,Nat.mod_eq_of_lt h]
theorem DM: ∀{l:List Nat},Lmb l->l=bL l.length (natV l)
 |[],_=>rfl
 |a::l,h=>by
  rw[d7]at h;have h1:(a+4294967296*natV l)%4294967296=a:=by omega
  have h2:(a+4294967296*natV l)/4294967296=natV l:=by omega
  show a::l=bL (l.length+1) (natV (a::l));rw[bL,natV,h1,h2,<- DM h.2]
theorem y9 {l:List Nat} {n x:Nat} (h:Lmb l) (hn:l.length=n) (hx:natV l=x):l=bL n x:=by
 subst hn hx;exact DM h
theorem eJ: ∀{n x i:Nat},i<n->(bL n x)[i]?=some (x/4294967296^i%4294967296)
 |0,_,_,h=>by omega
 |n+1,x,0,_=>by simp[bL]
 |n+1,x,i+1,h=>by
  rw[bL,List.getElem?_cons_succ,eJ (by omega),Nat.div_div_eq_div_mul,Nat.pow_succ,Nat.mul_comm 4294967296]
theorem qm {n x:Nat} (h:x<4294967296^n):eB (bL n x)=aY x:=by
 rw[ja (lQ _ _),fd h]
theorem oN {l:List Nat} {i a:Nat} (h:l[i]?=some a):natV (l.drop i)=a+4294967296*natV (l.drop (i+1)):=by rw[kA h,natV]
/-! Short division. -/
theorem Kd {a b Y:Nat} (hb:0<b) (ha:a<4294967296):(a+4294967296*Y)/b%4294967296=(Y%b*4294967296+a)/b/\(a+4294967296*Y)/b/4294967296=Y/b/\(a+4294967296*Y)%b=(Y%b*4294967296+a)%b:=by
 have h1:=Nat.div_add_mod Y b;have h2:=Nat.mod_lt Y hb;generalize hq:Y/b=q at*
 generalize hr:Y%b=r at*
 have e:a+4294967296*Y=b*(4294967296*q)+(r*4294967296+a):=by rw[<- h1];grind
 have hlt:(r*4294967296+a)/b<4294967296:=by
  rw[Nat.div_lt_iff_lt_mul hb];have:(r+1)*4294967296<=b*4294967296:=Nat.mul_le_mul_right _ (by omega);omega
 rw[e,Nat.mul_add_div hb,Nat.mul_add_mod];generalize(r*4294967296+a)/b=t at*
 refine⟨by omega,by omega,Nat.mul_add_mod _ _ _⟩
theorem Nd {l:List Nat} {i a b n:Nat} (hn:l.length=n) (hi:i<n) (ha:l[i]?=some a) (ha':a<4294967296) (hb:0<b):
  (l.take (i+1)++bL (n-(i+1)) (natV (l.drop (i+1))/b)).set i ((natV (l.drop (i+1))%b*4294967296+a)/b)=l.take i++bL (n-i) (natV (l.drop i)/b)/\
  (natV (l.drop (i+1))%b*4294967296+a)%b=natV (l.drop i)%b:=by
 obtain⟨h1,h2,h3⟩:=Kd (Y:=natV (l.drop (i+1))) hb ha';rw[oN ha];refine⟨?_,h3.symm⟩;rw[show n-i=n-(i+1)+1 by omega,bL,h1,h2,List.take_add_one,ha];simp only[Option.toList_some,List.append_assoc,List.singleton_append];rw[List.set_append_right _ _ (by simp;omega)];have e:i-(l.take i).length=0:=by simp;omega
 rw[e,List.set_cons_zero]
/-! Shifts. -/
theorem zS {s:Nat} (hs:s<32):2^s<=2147483648/\1<=2^s:=⟨by have:=aD (n:=2) (by omega) (show s<=31 by omega);simpa using this,Nat.one_le_two_pow⟩
theorem Kq {X Y s:Nat} (hs:s<=32):(X+18446744073709551616*Y)/2^s%4294967296=X/2^s%4294967296:=by
 have e:18446744073709551616*Y=2^s*(2^(32-s)*(4294967296*Y)):=by
  rw[<- Nat.mul_assoc,<- Nat.pow_add,show s+(32-s)=32 by omega];grind
 rw[e,Nat.add_mul_div_left _ _ (Nat.two_pow_pos s)];have e2:2^(32-s)*(4294967296*Y)=4294967296*(2^(32-s)*Y):=by grind
 rw[e2,Nat.add_mul_mod_self_left]
theorem RU {l:List Nat} (hl:Lmb l) {i s:Nat} (hs:s<=32):natV l/2^s/4294967296^i%4294967296=(l.getD i 0+4294967296*l.getD (i+1) 0)/2^s%4294967296:=by
 have e:natV l/2^s/4294967296^i=natV (l.drop i)/2^s:=by
  rw[Nat.div_div_eq_div_mul,Nat.mul_comm,<- Nat.div_div_eq_div_mul]
  congr 1
  by_cases hi:i<=l.length
  ·have h1:natV l=natV (l.take i)+4294967296^i*natV (l.drop i):=by
    conv=>lhs;rw[<- List.take_append_drop i l]
    rw[ik,List.length_take,Nat.min_eq_left hi]
   have h2:=fc hl i;rw[h1,Nat.add_mul_div_left _ _ (Nat.pow_pos (by omega)),Nat.div_eq_of_lt h2,Nat.zero_add]
  rw[List.drop_eq_nil_iff.2 (by omega)];have h2:=f8 hl;have h3:4294967296^l.length<=4294967296^i:=aD (by omega) (by omega);rw[Nat.div_eq_of_lt (by omega)];rfl
 rw[e];have g: ∀j,natV (l.drop j)=l.getD j 0+4294967296*natV (l.drop (j+1)):=fun j=>by
  rw[List.getD_eq_getElem?_getD];cases h:l[j]? with
  |none=>
   rw[List.getElem?_eq_none_iff]at h;rw[List.drop_eq_nil_iff.2 h,List.drop_eq_nil_iff.2 (by omega)];rfl
  |some a=>exact oN h
 rw[g i,g (i+1)];have e2:l.getD i 0+4294967296*(l.getD (i+1) 0+4294967296*natV (l.drop (i+1+1)))=(l.getD i 0+4294967296*l.getD (i+1) 0)+18446744073709551616*natV (l.drop (i+1+1)):=by grind
 rw[e2,Kq hs]
theorem Er {l:List Nat} (hl:Lmb l) {i s n v:Nat} (hs:s<=32) (hn:l.length=n) (hi:i<n) (hv:v=(l.getD i 0+4294967296*l.getD (i+1) 0)/2^s%4294967296):
  ((bL n (natV l/2^s)).take i++l.drop i).set i v=(bL n (natV l/2^s)).take (i+1)++l.drop (i+1):=by
 have hg:=eJ (n:=n) (x:=natV l/2^s) hi;rw[RU hl hs,<- hv]at hg;have hd:l.drop i=l[i]'(by omega)::l.drop (i+1):=List.drop_eq_getElem_cons (by omega);rw[List.set_append_right _ _ (by simp[bE];omega),List.take_add_one,hg,hd];have e:i-((bL n (natV l/2^s)).take i).length=0:=by simp[bE];omega
 rw[e,List.set_cons_zero]
 simp
def ug (m:List Nat) (s i:Nat):Nat:=natV (m.take i)*2^s/4294967296^i
theorem Qj {m:List Nat} (hm:Lmb m) (s i:Nat):ug m s i<2^s:=by
 unfold ug;rw[Nat.div_lt_iff_lt_mul (Nat.pow_pos (by omega)),Nat.mul_comm];exact Nat.mul_lt_mul_of_pos_left (fc hm i) (Nat.two_pow_pos s)
theorem Nk {m:List Nat} {s i a:Nat} (ha:m[i]?=some a):ug m s i+a*2^s=natV (m.take (i+1))*2^s/4294967296^i/\(ug m s i+a*2^s)/4294967296=ug m s (i+1):=by
 have h1:=bv ha;have e:natV (m.take (i+1))*2^s=natV (m.take i)*2^s+4294967296^i*(a*2^s):=by rw[h1];grind
 have h2:ug m s i+a*2^s=natV (m.take (i+1))*2^s/4294967296^i:=by
  unfold ug;rw[e,Nat.add_mul_div_left _ _ (Nat.pow_pos (by omega))]
 refine⟨h2,?_⟩;rw[h2];unfold ug;rw[Nat.div_div_eq_div_mul,Nat.pow_succ]
theorem Qk {m:List Nat} {s i j:Nat} (hj:j<i) (hi:i<=m.length):natV (m.take i)*2^s/4294967296^j%4294967296=natV m*2^s/4294967296^j%4294967296:=by
 have h1:natV m=natV (m.take i)+4294967296^i*natV (m.drop i):=by
  conv=>lhs;rw[<- List.take_append_drop i m]
  rw[ik,List.length_take,Nat.min_eq_left hi]
 obtain⟨d,rfl⟩: ∃d,i=j+1+d:=⟨i-(j+1),by omega⟩;have e:natV m*2^s=natV (m.take (j+1+d))*2^s+4294967296^j*(4294967296*(4294967296^d*natV (m.drop (j+1+d))*2^s)):=by
  rw[h1,Nat.pow_add,Nat.pow_add];grind
 rw[e,Nat.add_mul_div_left _ _ (Nat.pow_pos (by omega)),Nat.add_mul_mod_self_left]
theorem vW {n x:Nat}:bL (n+1) x=bL n x++[x/4294967296^n%4294967296]:=by
 apply List.ext_getElem?;intro i;rcases Nat.lt_trichotomy i n with h|h|h
 ·rw[eJ (by omega),List.getElem?_append_left (by rw[bE];exact h),eJ h]
 ·subst h;rw[eJ (by omega),List.getElem?_append_right (by rw[bE];exact ae _),bE,Nat.sub_self];rfl
 rw[au (by rw[bE];omega),au (by simp[bE];omega)]
theorem uA {a s:Nat} (h:a*2^s<18446744073709551616) (hs:s<=64):IntKind.u64.wrap ((a:Int)*2^(min s IntKind.u64.bits))=((a*2^s:Nat):Int):=by
 rw[show min s IntKind.u64.bits=s from Nat.min_eq_left hs,IntKind.wrap_u64];have e:(a:Int)*2^s=((a*2^s:Nat):Int):=by simp
 rw[e];omega
theorem C6 {a s:Nat} (hs:s<=64):Int.fdiv (a:Int) (2^(min s IntKind.u64.bits))=((a/2^s:Nat):Int):=by
 rw[show min s IntKind.u64.bits=s from Nat.min_eq_left hs];have e:(2:Int)^s=((2^s:Nat):Int):=by simp
 rw[e,Int.fdiv_eq_ediv_of_nonneg _ (Int.natCast_nonneg _)]
 simp
theorem oE (m:List Nat) (s:Nat) (lm:Lmb m) (hs:s<32) (bm:m.length<=536870912):CallC Tryz.prog 212 [bS m,.raw (.int .i64 (s:Int))] ⟨[⟨165,1,lc fU (bL (m.length+1) (natV m*2^s))⟩],.one (.sl 0 0 0 (m.length+1))⟩:=by
 have hp:=zS hs;have ep:(m.length:Int)+1=((m.length+1:Nat):Int):=by omega
 refine aK Tryz.func212 rfl (by kernel_rfl) ?_;rw[Tryz.ntmps212];refine aE fun _ K=>?_;simp only[kd,bS,aa,af];apply K
 refine aE fun _ K=>?_;simp(disch:=omega) only[kd,aa,ep,aM,oJ];apply K
 refine aE fun _ K=>?_;simp only[kd];apply K
 refine aG (aE fun _ K=>?_);simp only[kd,aa];apply K;refine bH (G:=qp m.length) (fun g=>⟨(bS m::rN s::jk::jk::jk::.one (.sl 12 0 0 (m.length+1))::.raw (.int .u64 (ug m s g.i:Nat))::j4 (jk::jk::bS m::rN m.length::rN g.i::j16 (j4 (j4 (jk::[]))))),Hm [(12,[⟨165,1,lc fU (bL g.i (natV m*2^s)++af (m.length+1-g.i) 0)⟩])]⟩) (fun g=>m.length-g.i) ⟨0,by omega⟩ ?_ ?_
 ·refine aF ⟨?_,trivial⟩ ?_
  ·simp[aJ,Hm,bL]
  simp[wk,ug,natV]
 rintro⟨i,hi⟩;simp only;have hcl:=Qj lm s i;by_cases hm:i<m.length
 ·obtain⟨a,ha⟩:=getElem?_of_lt hm;have ha':=cH lm ha;obtain⟨k1,k2⟩:=Nk (s:=s) ha;have hlow:=Qk (m:=m) (s:=s) (i:=i+1) (j:=i) (by omega) (by omega);rw[<- k1]at hlow;have hmul:a*2^s<=4294967295*2147483648:=Nat.mul_le_mul (by omega) hp.1;have e1:=uA (a:=a) (s:=s) (by omega) (by omega);have e2:=Cn (ug m s i) (a*2^s) (by omega) (by omega);rw[xC a (ug m s i) s hcl]at e2;have e3:IntKind.u32.wrap ((a*2^s+ug m s i:Nat):Int)=((natV m*2^s/4294967296^i%4294967296:Nat):Int):=by rw[EE,Nat.add_comm,hlow]
  have e4:Int.fdiv ((a*2^s+ug m s i:Nat):Int) (2^(min 32 IntKind.u64.bits))=((ug m s (i+1):Nat):Int):=by rw[Ot,Nat.add_comm,k2]
  have hz:m.length+1-i=(m.length-i)+1:=by omega
  have hg:=qh (bL i (natV m*2^s)) (m.length-i);have hset:=nH (bL i (natV m*2^s)) (m.length-i) (natV m*2^s/4294967296^i%4294967296);rw[bE]at hg hset;rw[<- vW]at hset;rw[hz];obtain⟨c1,hc1⟩: ∃c1,c1=ug m s (i+1):=⟨_,rfl⟩;obtain⟨P1,hP1⟩: ∃P1,P1=bL (i+1) (natV m*2^s):=⟨_,rfl⟩;rw[<- hc1]at e4;rw[<- hP1]at hset;clear k1 k2 hlow;generalize ug m s i=c0 at*
  generalize natV m*2^s/4294967296^i%4294967296=dg at*
  generalize bL i (natV m*2^s)=P0 at*
  generalize hal:a*2^s=al at*
  refine aE fun _ K=>?_;simp(disch:=omega) only[kd,bS];apply K
  refine cX rfl ?_;refine aG (aP ?_);refine aE fun _ K=>?_;simp(disch:=omega) only[kd,aa,ha];apply K
  refine aE fun _ K=>?_;simp(disch:=omega) only[kd,aa,dM,e1,e2];apply K
  refine aE fun _ K=>?_;simp(disch:=omega) only[kd,aa,e3,hg,dy,hset];apply K
  refine aO fun _ K=>?_;simp only[kd,aa,Int.reduceLE,an,e4];apply K
  show bu _ _ _ _;refine aO fun _ K=>?_;simp(disch:=omega) only[kd,aM];apply K
  refine⟨⟨i+1,by omega⟩,by simp only;omega,aF ⟨?_,trivial⟩ ?_⟩
  ·show _=[(⟨_,_,lc fU (bL (i+1) (natV m*2^s)++af (m.length+1-(i+1)) 0)⟩:OObj)];rw[show m.length+1-(i+1)=m.length-i by omega,<- hP1];rfl
  simp[wk,hc1]
 have hie:i=m.length:=by omega
 subst hie;have hc:ug m s m.length=natV m*2^s/4294967296^m.length:=by unfold ug;rw[List.take_length]
 have hd:ug m s m.length%4294967296=ug m s m.length:=Nat.mod_eq_of_lt (by omega);have e3:IntKind.u32.wrap ((ug m s m.length:Nat):Int)=((natV m*2^s/4294967296^m.length%4294967296:Nat):Int):=by rw[EE,hc]
 have hz:m.length+1-m.length=0+1:=by omega
 have hg:=qh (bL m.length (natV m*2^s)) 0;have hset:=nH (bL m.length (natV m*2^s)) 0 (natV m*2^s/4294967296^m.length%4294967296);rw[bE]at hg hset;rw[<- vW,List.replicate_zero,List.append_nil]at hset;rw[hz];clear hc hd;generalize bL (m.length+1) (natV m*2^s)=R at*
 generalize bL m.length (natV m*2^s)=P0 at*
 generalize natV m*2^s/4294967296^m.length%4294967296=dg at*
 generalize ug m s m.length=c0 at*
 refine aE fun _ K=>?_;simp(disch:=omega) only[kd,bS];apply K
 refine di rfl ?_;show bu _ _ _ _;refine aE fun _ K=>?_;simp(disch:=omega) only[kd,aa,e3,hg,dy,hset];apply K
 refine aE fun _ K=>?_;simp only[kd];apply K
 refine aL ⟨.inr rfl,_,bW.refl _,?_⟩;refine⟨.one (.sl 12 0 0 (m.length+1)),12,?_,rfl,?_,rfl⟩
 ·simp(disch:=omega) only[kd,Tryz.results212]
 show _=[_];simp[renO,jL]
def Gj (l:List Nat) (b i:Nat):List Nat:=l.take i++bL (l.length-i) (natV (l.drop i)/b)
theorem Nc (l:List Nat) (b:Nat) {i:Nat} (h:i<=l.length):(Gj l b i).length=l.length:=by simp[Gj,bE];omega
theorem rh (l:List Nat) (b:Nat) (ll:Lmb l) (hb:0<b) (hb':b<4294967296) (hl:0<l.length) (bl:l.length<=536870912):
  qo Tryz.prog 210 [.undef,.raw (.int .u32 (b:Int))] 0 0 l.length ⟨165,1,lc fU l⟩ ⟨165,1,lc fU (bL l.length (natV l/b))⟩ (.raw (.int .u32 ((natV l%b:Nat):Int))):=by
 refine r9 Tryz.func210 rfl (by kernel_rfl) (by simp) hl (by simp[lc]) (dJ _ _) rfl (by simp[lc,bE]) (dJ _ _) rfl ?_;rw[Tryz.ntmps210];refine aV (by kernel_rfl) fun _ K=>?_;simp only[kd,aa,af];apply K
 refine aV (by kernel_rfl) fun _ K=>?_;simp only[kd];apply K
 have e0:(l.length:Int)-1=(l.length:Int)-1:=rfl;refine cG (aV (by kernel_rfl) fun _ K=>?_);simp(disch:=omega) only[kd,aa,aM];apply K;refine lw (G:=qp l.length) (fun g=>⟨(.one (.sl 0 0 0 l.length)::.raw (.int .u32 (b:Int))::jk::jk::jk::.raw (.int .u64 ((natV (l.drop g.i)%b:Nat):Int))::.raw (.int .i64 ((g.i:Int)-1))::j16 (j4 (j4 (j4 (jk::[]))))),Hm [(0,[⟨165,1,lc fU (Gj l b g.i)⟩])]⟩) (fun g=>g.i) ⟨l.length,by omega⟩ ?_ ?_
 ·refine aF ⟨?_,trivial⟩ ?_
  ·simp[Gj,bL,famH]
  simp[wk,natV]
 rintro⟨i,hi⟩;simp only;by_cases h0:0<i
 ·obtain⟨j,rfl⟩: ∃j,i=j+1:=⟨i-1,by omega⟩;obtain⟨a,ha⟩:=getElem?_of_lt (l:=l) (k:=j) (by omega);have ha':=cH ll ha;have ej:((j+1:Nat):Int)-1=(j:Int):=by omega
  obtain⟨q1,q2⟩:=Nd (b:=b) rfl (show j<l.length by omega) ha ha' hb;have hlen:=Nc l b hi;have hget:(Gj l b (j+1))[j]?=some a:=by
   unfold Gj;rw[List.getElem?_append_left (by simp;omega),List.getElem?_take,if_pos (by omega),ha]
  change (Gj l b (j+1)).set j _=Gj l b j at q1
  have hr:=Nat.mod_lt (natV (l.drop (j+1))) hb;generalize natV (l.drop (j+1))%b=r at*
  obtain⟨r',hr'⟩: ∃r',r'=natV (l.drop j)%b:=⟨_,rfl⟩;rw[<- hr']at q2;have hcast:((natV (l.drop j):Nat):Int)%(b:Int)=(r':Int):=by rw[hr'];simp
  have e1:=uA (a:=r) (s:=32) (by omega) (by omega);have e2:=Cn (r*2^32) a (by omega) (by omega);rw[xD r a 32 (by omega),show r*2^32+a=r*4294967296+a from rfl]at e2;have e3:Int.tdiv ((r*4294967296+a:Nat):Int) (b:Int)=(((r*4294967296+a)/b:Nat):Int):=(Int.ofNat_tdiv _ _).symm;have e4:Int.tmod ((r*4294967296+a:Nat):Int) (b:Int)=(r':Int):=by rw[<- q2];exact(Int.ofNat_tmod _ _).symm
  have hq:(r*4294967296+a)/b<4294967296:=by
   rw[Nat.div_lt_iff_lt_mul hb];have:(r+1)*4294967296<=b*4294967296:=Nat.mul_le_mul_right _ (by omega);omega
  generalize(r*4294967296+a)/b=qd at*
  have e5:IntKind.u64.wrap (qd:Int)=(qd:Int):=by rw[IntKind.wrap_u64];omega
  have e6:IntKind.u32.wrap (qd:Int)=(qd:Int):=by rw[IntKind.wrap_u32];omega
  generalize Gj l b (j+1)=S at*
  obtain⟨S',hS'⟩: ∃S',S'=Gj l b j:=⟨_,rfl⟩;rw[<- hS']at q1;refine cG (aV (by kernel_rfl) fun _ K=>?_);simp(disch:=omega) only[kd,ej];apply K;refine lj rfl (gU ?_);refine cG (fE ?_);refine aV (by kernel_rfl) fun _ K=>?_;simp(disch:=omega) only[kd,aa,Int.reduceLE,an,e1,hget,dM,e2];apply K
  refine aV (by kernel_rfl) fun _ K=>?_;simp(disch:=omega) only[kd,aa,dM,e3,e5,e6,hget,dy,q1];apply K
  refine dQ (by kernel_rfl) fun _ K=>?_;simp(disch:=omega) only[kd,aa,dM,e4];apply K
  show fK _ _ _ _ _;refine dQ (by kernel_rfl) fun _ K=>?_;simp(disch:=omega) only[kd,aa,aM];apply K
  refine⟨⟨j,by omega⟩,by simp only;omega,aF ⟨?_,trivial⟩ ?_⟩
  ·show _=[(⟨_,_,lc fU (Gj l b j)⟩:OObj)];rw[<- hS'];rfl
  simp[wk,hcast]
 have hi0:i=0:=by omega
 subst hi0;have hr:natV l%b<4294967296:=Nat.lt_trans (Nat.mod_lt _ hb) hb';have hS:Gj l b 0=bL l.length (natV l/b):=by simp[Gj]
 rw[hS,List.drop_zero];generalize natV l%b=r at*
 generalize bL l.length (natV l/b)=S at*
 have e6:IntKind.u32.wrap (r:Int)=(r:Int):=by rw[IntKind.wrap_u32];omega
 refine cG (aV (by kernel_rfl) fun _ K=>?_);simp(disch:=omega) only[kd];apply K;refine m0 rfl (lk ?_);show fK _ _ _ _ _;refine aV (by kernel_rfl) fun _ K=>?_;simp only[kd,aa,e6];apply K
 refine nT ⟨.inr rfl,_,bW.refl _,rfl,fW _,?_⟩;simp(disch:=omega) only[kd,Tryz.results210]
def Aw (l:List Nat) (s i:Nat):List Nat:=(bL l.length (natV l/2^s)).take i++l.drop i
theorem Nm (l:List Nat) (s:Nat) {i:Nat} (h:i<=l.length):(Aw l s i).length=l.length:=by simp[Aw,bE];omega
theorem Ep {l:List Nat} {s i j a:Nat} (hi:i<=j) (h:l[j]?=some a):(Aw l s i)[j]?=some a:=by
 have hj:=(List.getElem?_eq_some_iff.1 h).1;unfold Aw;have e:((bL l.length (natV l/2^s)).take i).length=i:=by simp[bE];omega
 rw[List.getElem?_append_right (by omega),e,List.getElem?_drop,show i+(j-i)=j by omega,h]
theorem uP (l:List Nat) (s:Nat) (ll:Lmb l) (hs:s<32) (hl:0<l.length) (bl:l.length<=536870912):
  qo Tryz.prog 214 [.undef,.raw (.int .i64 (s:Int))] 0 0 l.length ⟨165,1,lc fU l⟩ ⟨165,1,lc fU (bL l.length (natV l/2^s))⟩ (.tup []):=by
 refine r9 Tryz.func214 rfl (by kernel_rfl) (by simp) hl (by simp[lc]) (dJ _ _) rfl (by simp[lc,bE]) (dJ _ _) rfl ?_;rw[Tryz.ntmps214];refine aV (by kernel_rfl) fun _ K=>?_;simp only[kd,aa,af];apply K
 refine lw (G:=qp l.length) (fun g=>⟨(.one (.sl 0 0 0 l.length)::rN s::j4 (jk::rN l.length::rN g.i::j16 (j4 (j4 (j4 (jk::[])))))),Hm [(0,[⟨165,1,lc fU (Aw l s g.i)⟩])]⟩) (fun g=>l.length-g.i) ⟨0,by omega⟩ ?_ ?_
 ·refine aF ⟨?_,trivial⟩ ?_
  ·simp[Aw,famH]
  simp[wk]
 rintro⟨i,hi⟩;simp only;have hlen:=Nm l s hi;by_cases hm:i<l.length
 ·obtain⟨a,ha⟩:=getElem?_of_lt hm;have ha':=cH ll ha;have hget:=Ep (s:=s) (ae i) ha;have hga:l.getD i 0=a:=by rw[List.getD_eq_getElem?_getD,ha];rfl
  have ei:(i:Int)+1=((i+1:Nat):Int):=by omega
  obtain⟨S',hS'⟩: ∃S',S'=Aw l s (i+1):=⟨_,rfl⟩;by_cases hm2:i+1<l.length
  ·obtain⟨b,hb⟩:=getElem?_of_lt hm2;have hb':=cH ll hb;have hget2:=Ep (s:=s) (show i<=i+1 by omega) hb;have hgb:l.getD (i+1) 0=b:=by rw[List.getD_eq_getElem?_getD,hb];rfl
   have hset:=Er (v:=(b*4294967296+a)/2^s%4294967296) ll (show s<=32 by omega) rfl hm (by rw[hga,hgb,Nat.add_comm,Nat.mul_comm])
   change (Aw l s i).set i _=Aw l s (i+1)at hset
   rw[<- hS']at hset;have e1:=uA (a:=b) (s:=32) (by omega) (by omega);have e2:=Cn a (b*2^32) (by omega) (by omega);rw[xC b a 32 (by omega),show b*2^32+a=b*4294967296+a from rfl]at e2;have e3:=C6 (a:=b*4294967296+a) (s:=s) (by omega);have e4:=EE ((b*4294967296+a)/2^s);generalize(b*4294967296+a)/2^s=qd at*
   generalize Aw l s i=S at*
   refine aV (by kernel_rfl) fun _ K=>?_;simp(disch:=omega) only[kd];apply K
   refine wM rfl ?_;refine cG (fE ?_);refine aV (by kernel_rfl) fun _ K=>?_;simp only[kd];apply K
   refine aV (by kernel_rfl) fun _ K=>?_;simp(disch:=omega) only[kd,aa,hget,dM];apply K
   refine cG (aV (by kernel_rfl) fun _ K=>?_);simp(disch:=omega) only[kd,aa,ei,aM];apply K;refine lj rfl ?_;refine dQ (by kernel_rfl) fun _ K=>?_;simp(disch:=omega) only[kd,aa,ei,aM,hget2,dM,Int.reduceLE,an,e1,e2];apply K
   show fK _ _ _ _ _;refine dQ (by kernel_rfl) fun _ K=>?_;simp(disch:=omega) only[kd,aa,e3,e4,hget,dy,hset];apply K
   show fK _ _ _ _ _;refine dQ (by kernel_rfl) fun _ K=>?_;simp(disch:=omega) only[kd,aM];apply K
   refine⟨⟨i+1,by omega⟩,by simp only;omega,aF ⟨?_,trivial⟩ ?_⟩
   ·show _=[(⟨_,_,lc fU (Aw l s (i+1))⟩:OObj)];rw[<- hS'];rfl
   simp[wk]
  have hgb:l.getD (i+1) 0=0:=by rw[List.getD_eq_getElem?_getD,au (by omega)];rfl
  have hset:=Er (v:=a/2^s%4294967296) ll (show s<=32 by omega) rfl hm (by rw[hga,hgb];rfl)
  change (Aw l s i).set i _=Aw l s (i+1)at hset
  rw[<- hS']at hset;have e3:=C6 (a:=a) (s:=s) (by omega);have e4:=EE (a/2^s);generalize a/2^s=qd at*
  generalize Aw l s i=S at*
  refine aV (by kernel_rfl) fun _ K=>?_;simp(disch:=omega) only[kd];apply K
  refine wM rfl ?_;refine cG (fE ?_);refine aV (by kernel_rfl) fun _ K=>?_;simp only[kd];apply K
  refine aV (by kernel_rfl) fun _ K=>?_;simp(disch:=omega) only[kd,aa,hget,dM];apply K
  refine cG (aV (by kernel_rfl) fun _ K=>?_);simp(disch:=omega) only[kd,aa,ei,aM];apply K;refine m0 rfl (gU ?_);show fK _ _ _ _ _;refine dQ (by kernel_rfl) fun _ K=>?_;simp(disch:=omega) only[kd,aa,e3,e4,hget,dy,hset];apply K
  show fK _ _ _ _ _;refine dQ (by kernel_rfl) fun _ K=>?_;simp(disch:=omega) only[kd,aM];apply K
  refine⟨⟨i+1,by omega⟩,by simp only;omega,aF ⟨?_,trivial⟩ ?_⟩
  ·show _=[(⟨_,_,lc fU (Aw l s (i+1))⟩:OObj)];rw[<- hS'];rfl
  simp[wk]
 have hie:i=l.length:=by omega
 subst hie;have hS:Aw l s l.length=bL l.length (natV l/2^s):=by
  unfold Aw;rw[List.drop_length,List.append_nil,List.take_of_length_le (by rw[bE];exact ae _)]
 rw[hS];generalize bL l.length (natV l/2^s)=S at*
 refine aV (by kernel_rfl) fun _ K=>?_;simp(disch:=omega) only[kd];apply K
 refine wL rfl ?_;refine⟨.inl rfl,_,bW.refl _,rfl,fW _,?_⟩;simp(disch:=omega) only[kd,Tryz.results214]
end Go.Proofs.YtalmoejhjceflaaGreat
