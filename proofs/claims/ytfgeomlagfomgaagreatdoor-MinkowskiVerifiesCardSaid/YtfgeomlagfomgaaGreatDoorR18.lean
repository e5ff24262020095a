/-
  Part 19 of a proof (walks and plain facts).
-/
import Derived.Test.YtfgeomlagfomgaaGreatDoorR17
import Derived.Lib.BitFns
set_option linter.all false
set_option maxRecDepth 100000
set_option maxHeartbeats 64000000
open Nat renaming reduceAdd → aa
open Nat renaming le_refl → ac
open List renaming replicate → ae
open Int renaming reduceToNat → am
open List renaming getElem?_append_right → ap
namespace Go.Proofs.YtfgeomlagfomgaaGreatDoor
open Go.RowKit
theorem vF {a s:Nat} (h:a*2^s<18446744073709551616) (hs:s<=64):IntKind.u64.wrap ((a:Int)*2^(min s IntKind.u64.bits))=((a*2^s:Nat):Int):=by
 rw[show min s IntKind.u64.bits=s from Nat.min_eq_left hs,IntKind.wrap_u64];have e:(a:Int)*2^s=((a*2^s:Nat):Int):=by simp
 rw[e];omega
theorem C9 {a s:Nat} (hs:s<=64):Int.fdiv (a:Int) (2^(min s IntKind.u64.bits))=((a/2^s:Nat):Int):=by
 rw[show min s IntKind.u64.bits=s from Nat.min_eq_left hs];have e:(2:Int)^s=((2^s:Nat):Int):=by simp
 rw[e,Int.fdiv_eq_ediv_of_nonneg _ (Int.natCast_nonneg _)]
 simp
theorem pK (m:List Nat) (s:Nat) (lm:Lmb m) (hs:s<32) (bm:m.length<=536870912):CallC Tryz.prog 179 [bA m,.raw (.int .i64 (s:Int))] ⟨[⟨79,1,lc fU (bT (m.length+1) (natV m*2^s))⟩],.one (.sl 0 0 0 (m.length+1))⟩:=by
 have hp:=Az hs;have ep:(m.length:Int)+1=((m.length+1:Nat):Int):=by omega
 refine aI Tryz.func179 rfl (by kernel_rfl) ?_;rw[Tryz.ntmps179];refine aC fun _ K=>?_;simp only[kd,bA,aa,ae];apply K
 refine aC fun _ K=>?_;simp(disch:=omega) only[kd,aa,ep,aO,lP];apply K
 refine aC fun _ K=>?_;simp only[kd];apply K
 refine aD (aC fun _ K=>?_);simp only[kd,aa];apply K;refine aT (G:=jP m.length) (fun g=>⟨(bA m::rN s::jk::jk::jk::.one (.sl 12 0 0 (m.length+1))::.raw (.int .u64 (vo m s g.i:Nat))::j4 (jk::jk::bA m::rN m.length::rN g.i::j16 (j4 (j4 (jk::[]))))),Hm [(12,[⟨79,1,lc fU (bT g.i (natV m*2^s)++ae (m.length+1-g.i) 0)⟩])]⟩) (fun g=>m.length-g.i) ⟨0,by omega⟩ ?_ ?_
 ·refine aE ⟨?_,trivial⟩ ?_
  ·simp[bi,Hm,bT]
  simp[wk,vo,natV]
 rintro⟨i,hi⟩;simp only;have hcl:=Pg lm s i;by_cases hm:i<m.length
 ·obtain⟨a,ha⟩:=getElem?_of_lt hm;have ha':=cu lm ha;obtain⟨k1,k2⟩:=M3 (s:=s) ha;have hlow:=Ph (m:=m) (s:=s) (i:=i+1) (j:=i) (by omega) (by omega);rw[<- k1]at hlow;have hmul:a*2^s<=4294967295*2147483648:=Nat.mul_le_mul (by omega) hp.1;have e1:=vF (a:=a) (s:=s) (by omega) (by omega);have e2:=yr (vo m s i) (a*2^s) (by omega) (by omega);rw[sD a (vo m s i) s hcl]at e2;have e3:IntKind.u32.wrap ((a*2^s+vo m s i:Nat):Int)=((natV m*2^s/4294967296^i%4294967296:Nat):Int):=by rw[sR,Nat.add_comm,hlow]
  have e4:Int.fdiv ((a*2^s+vo m s i:Nat):Int) (2^(min 32 IntKind.u64.bits))=((vo m s (i+1):Nat):Int):=by rw[GY,Nat.add_comm,k2]
  have hz:m.length+1-i=(m.length-i)+1:=by omega
  have hg:=rk (bT i (natV m*2^s)) (m.length-i);have hset:=pi (bT i (natV m*2^s)) (m.length-i) (natV m*2^s/4294967296^i%4294967296);rw[bN]at hg hset;rw[<- w6]at hset;rw[hz];obtain⟨c1,hc1⟩: ∃c1,c1=vo m s (i+1):=⟨_,rfl⟩;obtain⟨P1,hP1⟩: ∃P1,P1=bT (i+1) (natV m*2^s):=⟨_,rfl⟩;rw[<- hc1]at e4;rw[<- hP1]at hset;clear k1 k2 hlow;generalize vo m s i=c0 at*
  generalize natV m*2^s/4294967296^i%4294967296=dg at*
  generalize bT i (natV m*2^s)=P0 at*
  generalize hal:a*2^s=al at*
  refine aC fun _ K=>?_;simp(disch:=omega) only[kd,bA];apply K
  refine bu rfl ?_;refine aD (aJ ?_);refine aC fun _ K=>?_;simp(disch:=omega) only[kd,aa,ha];apply K
  refine aC fun _ K=>?_;simp(disch:=omega) only[kd,aa,du,e1,e2];apply K
  refine aC fun _ K=>?_;simp(disch:=omega) only[kd,aa,e3,hg,dG,hset];apply K
  refine aL fun _ K=>?_;simp only[kd,aa,Int.reduceLE,am,e4];apply K
  show bf _ _ _ _;refine aL fun _ K=>?_;simp(disch:=omega) only[kd,aO];apply K
  refine⟨⟨i+1,by omega⟩,by simp only;omega,aE ⟨?_,trivial⟩ ?_⟩
  ·show _=[(⟨_,_,lc fU (bT (i+1) (natV m*2^s)++ae (m.length+1-(i+1)) 0)⟩:OObj)];rw[show m.length+1-(i+1)=m.length-i by omega,<- hP1];rfl
  simp[wk,hc1]
 have hie:i=m.length:=by omega
 subst hie;have hc:vo m s m.length=natV m*2^s/4294967296^m.length:=by unfold vo;rw[List.take_length]
 have hd:vo m s m.length%4294967296=vo m s m.length:=Nat.mod_eq_of_lt (by omega);have e3:IntKind.u32.wrap ((vo m s m.length:Nat):Int)=((natV m*2^s/4294967296^m.length%4294967296:Nat):Int):=by rw[sR,hc]
 have hz:m.length+1-m.length=0+1:=by omega
 have hg:=rk (bT m.length (natV m*2^s)) 0;have hset:=pi (bT m.length (natV m*2^s)) 0 (natV m*2^s/4294967296^m.length%4294967296);rw[bN]at hg hset;rw[<- w6,List.replicate_zero,List.append_nil]at hset;rw[hz];clear hc hd;generalize bT (m.length+1) (natV m*2^s)=R at*
 generalize bT m.length (natV m*2^s)=P0 at*
 generalize natV m*2^s/4294967296^m.length%4294967296=dg at*
 generalize vo m s m.length=c0 at*
 refine aC fun _ K=>?_;simp(disch:=omega) only[kd,bA];apply K
 refine bD rfl ?_;show bf _ _ _ _;refine aC fun _ K=>?_;simp(disch:=omega) only[kd,aa,e3,hg,dG,hset];apply K
 refine aC fun _ K=>?_;simp only[kd];apply K
 refine aH ⟨.inr rfl,_,b8.refl _,?_⟩;refine⟨.one (.sl 12 0 0 (m.length+1)),12,?_,rfl,?_,rfl⟩
 ·simp(disch:=omega) only[kd,Tryz.results179]
 show _=[_];simp[dj,uk]
def Gt (l:List Nat) (b i:Nat):List Nat:=l.take i++bT (l.length-i) (natV (l.drop i)/b)
theorem MS (l:List Nat) (b:Nat) {i:Nat} (h:i<=l.length):(Gt l b i).length=l.length:=by simp[Gt,bN];omega
theorem r7 (l:List Nat) (b:Nat) (ll:Lmb l) (hb:0<b) (hb':b<4294967296) (hl:0<l.length) (bl:l.length<=536870912):
  pq Tryz.prog 177 [.undef,.raw (.int .u32 (b:Int))] 0 0 l.length ⟨79,1,lc fU l⟩ ⟨79,1,lc fU (bT l.length (natV l/b))⟩ (.raw (.int .u32 ((natV l%b:Nat):Int))):=by
 refine pD Tryz.func177 rfl (by kernel_rfl) (by simp) hl (by simp[lc]) (dC _ _) rfl (by simp[lc,bN]) (dC _ _) rfl ?_;rw[Tryz.ntmps177];refine aX (by kernel_rfl) fun _ K=>?_;simp only[kd,aa,ae];apply K
 refine aX (by kernel_rfl) fun _ K=>?_;simp only[kd];apply K
 have e0:(l.length:Int)-1=(l.length:Int)-1:=rfl;refine dc (aX (by kernel_rfl) fun _ K=>?_);simp(disch:=omega) only[kd,aa,aO];apply K;refine kF (G:=jP l.length) (fun g=>⟨(.one (.sl 0 0 0 l.length)::.raw (.int .u32 (b:Int))::jk::jk::jk::.raw (.int .u64 ((natV (l.drop g.i)%b:Nat):Int))::.raw (.int .i64 ((g.i:Int)-1))::j16 (j4 (j4 (j4 (jk::[]))))),Hm [(0,[⟨79,1,lc fU (Gt l b g.i)⟩])]⟩) (fun g=>g.i) ⟨l.length,by omega⟩ ?_ ?_
 ·refine aE ⟨?_,trivial⟩ ?_
  ·simp[Gt,bT,famH]
  simp[wk,natV]
 rintro⟨i,hi⟩;simp only;by_cases h0:0<i
 ·obtain⟨j,rfl⟩: ∃j,i=j+1:=⟨i-1,by omega⟩;obtain⟨a,ha⟩:=getElem?_of_lt (l:=l) (k:=j) (by omega);have ha':=cu ll ha;have ej:((j+1:Nat):Int)-1=(j:Int):=by omega
  obtain⟨q1,q2⟩:=MT (b:=b) rfl (show j<l.length by omega) ha ha' hb;have hlen:=MS l b hi;have hget:(Gt l b (j+1))[j]?=some a:=by
   unfold Gt;rw[List.getElem?_append_left (by simp;omega),List.getElem?_take,if_pos (by omega),ha]
  change (Gt l b (j+1)).set j _=Gt l b j at q1
  have hr:=Nat.mod_lt (natV (l.drop (j+1))) hb;generalize natV (l.drop (j+1))%b=r at*
  obtain⟨r',hr'⟩: ∃r',r'=natV (l.drop j)%b:=⟨_,rfl⟩;rw[<- hr']at q2;have hcast:((natV (l.drop j):Nat):Int)%(b:Int)=(r':Int):=by rw[hr'];simp
  have e1:=vF (a:=r) (s:=32) (by omega) (by omega);have e2:=yr (r*2^32) a (by omega) (by omega);rw[q9 r a 32 (by omega),show r*2^32+a=r*4294967296+a from rfl]at e2;have e3:Int.tdiv ((r*4294967296+a:Nat):Int) (b:Int)=(((r*4294967296+a)/b:Nat):Int):=(Int.ofNat_tdiv _ _).symm;have e4:Int.tmod ((r*4294967296+a:Nat):Int) (b:Int)=(r':Int):=by rw[<- q2];exact(Int.ofNat_tmod _ _).symm
  have hq:(r*4294967296+a)/b<4294967296:=by
   rw[Nat.div_lt_iff_lt_mul hb];have:(r+1)*4294967296<=b*4294967296:=Nat.mul_le_mul_right _ (by omega);omega
  generalize(r*4294967296+a)/b=qd at*
  have e5:IntKind.u64.wrap (qd:Int)=(qd:Int):=by rw[IntKind.wrap_u64];omega
  have e6:IntKind.u32.wrap (qd:Int)=(qd:Int):=by rw[IntKind.wrap_u32];omega
  generalize Gt l b (j+1)=S at*
  obtain⟨S',hS'⟩: ∃S',S'=Gt l b j:=⟨_,rfl⟩;rw[<- hS']at q1;refine dc (aX (by kernel_rfl) fun _ K=>?_);simp(disch:=omega) only[kd,ej];apply K;refine lA rfl (gO ?_);refine dc (fA ?_);refine aX (by kernel_rfl) fun _ K=>?_;simp(disch:=omega) only[kd,aa,Int.reduceLE,am,e1,hget,du,e2];apply K
  refine aX (by kernel_rfl) fun _ K=>?_;simp(disch:=omega) only[kd,aa,du,e3,e5,e6,hget,dG,q1];apply K
  refine d9 (by kernel_rfl) fun _ K=>?_;simp(disch:=omega) only[kd,aa,du,e4];apply K
  show gB _ _ _ _ _;refine d9 (by kernel_rfl) fun _ K=>?_;simp(disch:=omega) only[kd,aa,aO];apply K
  refine⟨⟨j,by omega⟩,by simp only;omega,aE ⟨?_,trivial⟩ ?_⟩
  ·show _=[(⟨_,_,lc fU (Gt l b j)⟩:OObj)];rw[<- hS'];rfl
  simp[wk,hcast]
 have hi0:i=0:=by omega
 subst hi0;have hr:natV l%b<4294967296:=Nat.lt_trans (Nat.mod_lt _ hb) hb';have hS:Gt l b 0=bT l.length (natV l/b):=by simp[Gt]
 rw[hS,List.drop_zero];generalize natV l%b=r at*
 generalize bT l.length (natV l/b)=S at*
 have e6:IntKind.u32.wrap (r:Int)=(r:Int):=by rw[IntKind.wrap_u32];omega
 refine dc (aX (by kernel_rfl) fun _ K=>?_);simp(disch:=omega) only[kd];apply K;refine mr rfl (ms ?_);show gB _ _ _ _ _;refine aX (by kernel_rfl) fun _ K=>?_;simp only[kd,aa,e6];apply K
 refine nC ⟨.inr rfl,_,b8.refl _,rfl,qT _,?_⟩;simp(disch:=omega) only[kd,Tryz.results177]
def AX (l:List Nat) (s i:Nat):List Nat:=(bT l.length (natV l/2^s)).take i++l.drop i
theorem M5 (l:List Nat) (s:Nat) {i:Nat} (h:i<=l.length):(AX l s i).length=l.length:=by simp[AX,bN];omega
theorem EG {l:List Nat} {s i j a:Nat} (hi:i<=j) (h:l[j]?=some a):(AX l s i)[j]?=some a:=by
 have hj:=(List.getElem?_eq_some_iff.1 h).1;unfold AX;have e:((bT l.length (natV l/2^s)).take i).length=i:=by simp[bN];omega
 rw[ap (by omega),e,List.getElem?_drop,show i+(j-i)=j by omega,h]
theorem vR (l:List Nat) (s:Nat) (ll:Lmb l) (hs:s<32) (hl:0<l.length) (bl:l.length<=536870912):
  pq Tryz.prog 181 [.undef,.raw (.int .i64 (s:Int))] 0 0 l.length ⟨79,1,lc fU l⟩ ⟨79,1,lc fU (bT l.length (natV l/2^s))⟩ (.tup []):=by
 refine pD Tryz.func181 rfl (by kernel_rfl) (by simp) hl (by simp[lc]) (dC _ _) rfl (by simp[lc,bN]) (dC _ _) rfl ?_;rw[Tryz.ntmps181];refine aX (by kernel_rfl) fun _ K=>?_;simp only[kd,aa,ae];apply K
 refine kF (G:=jP l.length) (fun g=>⟨(.one (.sl 0 0 0 l.length)::rN s::j4 (jk::rN l.length::rN g.i::j16 (j4 (j4 (j4 (jk::[])))))),Hm [(0,[⟨79,1,lc fU (AX l s g.i)⟩])]⟩) (fun g=>l.length-g.i) ⟨0,by omega⟩ ?_ ?_
 ·refine aE ⟨?_,trivial⟩ ?_
  ·simp[AX,famH]
  simp[wk]
 rintro⟨i,hi⟩;simp only;have hlen:=M5 l s hi;by_cases hm:i<l.length
 ·obtain⟨a,ha⟩:=getElem?_of_lt hm;have ha':=cu ll ha;have hget:=EG (s:=s) (ac i) ha;have hga:l.getD i 0=a:=by rw[List.getD_eq_getElem?_getD,ha];rfl
  have ei:(i:Int)+1=((i+1:Nat):Int):=by omega
  obtain⟨S',hS'⟩: ∃S',S'=AX l s (i+1):=⟨_,rfl⟩;by_cases hm2:i+1<l.length
  ·obtain⟨b,hb⟩:=getElem?_of_lt hm2;have hb':=cu ll hb;have hget2:=EG (s:=s) (show i<=i+1 by omega) hb;have hgb:l.getD (i+1) 0=b:=by rw[List.getD_eq_getElem?_getD,hb];rfl
   have hset:=EH (v:=(b*4294967296+a)/2^s%4294967296) ll (show s<=32 by omega) rfl hm (by rw[hga,hgb,Nat.add_comm,Nat.mul_comm])
   change (AX l s i).set i _=AX l s (i+1)at hset
   rw[<- hS']at hset;have e1:=vF (a:=b) (s:=32) (by omega) (by omega);have e2:=yr a (b*2^32) (by omega) (by omega);rw[sD b a 32 (by omega),show b*2^32+a=b*4294967296+a from rfl]at e2;have e3:=C9 (a:=b*4294967296+a) (s:=s) (by omega);have e4:=sR ((b*4294967296+a)/2^s);generalize(b*4294967296+a)/2^s=qd at*
   generalize AX l s i=S at*
   refine aX (by kernel_rfl) fun _ K=>?_;simp(disch:=omega) only[kd];apply K
   refine qE rfl ?_;refine dc (fA ?_);refine aX (by kernel_rfl) fun _ K=>?_;simp only[kd];apply K
   refine aX (by kernel_rfl) fun _ K=>?_;simp(disch:=omega) only[kd,aa,hget,du];apply K
   refine dc (aX (by kernel_rfl) fun _ K=>?_);simp(disch:=omega) only[kd,aa,ei,aO];apply K;refine lA rfl ?_;refine d9 (by kernel_rfl) fun _ K=>?_;simp(disch:=omega) only[kd,aa,ei,aO,hget2,du,Int.reduceLE,am,e1,e2];apply K
   show gB _ _ _ _ _;refine d9 (by kernel_rfl) fun _ K=>?_;simp(disch:=omega) only[kd,aa,e3,e4,hget,dG,hset];apply K
   show gB _ _ _ _ _;refine d9 (by kernel_rfl) fun _ K=>?_;simp(disch:=omega) only[kd,aO];apply K
   refine⟨⟨i+1,by omega⟩,by simp only;omega,aE ⟨?_,trivial⟩ ?_⟩
   ·show _=[(⟨_,_,lc fU (AX l s (i+1))⟩:OObj)];rw[<- hS'];rfl
   simp[wk]
  have hgb:l.getD (i+1) 0=0:=by rw[List.getD_eq_getElem?_getD,List.getElem?_eq_none (by omega)];rfl
  have hset:=EH (v:=a/2^s%4294967296) ll (show s<=32 by omega) rfl hm (by rw[hga,hgb];rfl)
  change (AX l s i).set i _=AX l s (i+1)at hset
  rw[<- hS']at hset;have e3:=C9 (a:=a) (s:=s) (by omega);have e4:=sR (a/2^s);generalize a/2^s=qd at*
  generalize AX l s i=S at*
  refine aX (by kernel_rfl) fun _ K=>?_;simp(disch:=omega) only[kd];apply K
  refine qE rfl ?_;refine dc (fA ?_);refine aX (by kernel_rfl) fun _ K=>?_;simp only[kd];apply K
  refine aX (by kernel_rfl) fun _ K=>?_;simp(disch:=omega) only[kd,aa,hget,du];apply K
  refine dc (aX (by kernel_rfl) fun _ K=>?_);simp(disch:=omega) only[kd,aa,ei,aO];apply K;refine mr rfl (gO ?_);show gB _ _ _ _ _;refine d9 (by kernel_rfl) fun _ K=>?_;simp(disch:=omega) only[kd,aa,e3,e4,hget,dG,hset];apply K
  show gB _ _ _ _ _;refine d9 (by kernel_rfl) fun _ K=>?_;simp(disch:=omega) only[kd,aO];apply K
  refine⟨⟨i+1,by omega⟩,by simp only;omega,aE ⟨?_,trivial⟩ ?_⟩
  ·show _=[(⟨_,_,lc fU (AX l s (i+1))⟩:OObj)];rw[<- hS'];rfl
  simp[wk]
 have hie:i=l.length:=by omega
 subst hie;have hS:AX l s l.length=bT l.length (natV l/2^s):=by
  unfold AX;rw[List.drop_length,List.append_nil,List.take_of_length_le (by rw[bN];exact ac _)]
 rw[hS];generalize bT l.length (natV l/2^s)=S at*
 refine aX (by kernel_rfl) fun _ K=>?_;simp(disch:=omega) only[kd];apply K
 refine td rfl ?_;refine⟨.inl rfl,_,b8.refl _,rfl,qT _,?_⟩;simp(disch:=omega) only[kd,Tryz.results181]
section
theorem FW {l:List Nat} {n x y:Nat} (hn:l.length=n+2) (hx:l[n+1]?=some x) (hy:l[n]?=some y):natV l=(x*4294967296+y)*4294967296^n+natV (l.take n):=by
 have h1:=bJ hx;have h2:=bJ hy;rw[List.take_of_length_le (by omega)]at h1;rw[h1,h2,Nat.pow_succ];grind
theorem FX {l:List Nat} {n x y z:Nat} (hn:l.length=n+3) (hx:l[n+2]?=some x) (hy:l[n+1]?=some y) (hz:l[n]?=some z):natV l=((x*4294967296+y)*4294967296+z)*4294967296^n+natV (l.take n):=by
 have h1:=bJ hx;have h2:=bJ hy;have h3:=bJ hz;rw[List.take_of_length_le (by omega)]at h1;rw[h1,h2,h3,Nat.pow_succ,Nat.pow_succ];grind
structure vL (u v:List Nat) (n v1 v2 u2 u1 u0:Nat):Prop where
 lu:Lmb u
 lv:Lmb v
 nu:u.length=n+3
 nv:v.length=n+2
 hv1:v[n+1]?=some v1
 hv2:v[n]?=some v2
 hu2:u[n+2]?=some u2
 hu1:u[n+1]?=some u1
 hu0:u[n]?=some u0
 top:2147483648<=v1
 lt:natV u<natV v*4294967296
section
variable {u v:List Nat} {n v1 v2 u2 u1 u0:Nat} (h:vL u v n v1 v2 u2 u1 u0)
include h
theorem vL.vpos:0<natV v:=by
 have:=h.lt;by_cases hv:natV v=0
 ·rw[hv]at this;omega
 omega
theorem vL.bv1:v1<4294967296:=cu h.lv h.hv1
theorem vL.bv2:v2<4294967296:=cu h.lv h.hv2
theorem vL.bu2:u2<4294967296:=cu h.lu h.hu2
theorem vL.bu1:u1<4294967296:=cu h.lu h.hu1
theorem vL.bu0:u0<4294967296:=cu h.lu h.hu0
theorem vL.eV:natV v=(v1*4294967296+v2)*4294967296^n+natV (v.take n):=FW h.nv h.hv1 h.hv2
theorem vL.eU:natV u=((u2*4294967296+u1)*4294967296+u0)*4294967296^n+natV (u.take n):=FX h.nu h.hu2 h.hu1 h.hu0
theorem vL.vl:natV (v.take n)<4294967296^n:=fm h.lv n
theorem vL.ul:natV (u.take n)<4294967296^n:=fm h.lu n
theorem vL.q_lt:natV u/natV v<4294967296:=by
 rw[Nat.div_lt_iff_lt_mul h.vpos,Nat.mul_comm];exact h.lt
theorem vL.u2_le : u2 <= v1 := by
  have e1 := h.eV;have e2 := h.eU;have h1 := h.lt;have h2 := h.vl;have h3 := h.bv2;have hL : 0 < 4294967296 ^ n := Nat.pow_pos (by omega);generalize 4294967296 ^ n = L at *
  by_cases hc : u2 <= v1
  · exact hc
  · exfalso
    have h4 : (v1 + 1) * 4294967296 * 4294967296 * L <= natV u := by
      rw [e2];have : (v1 + 1) * 4294967296 * 4294967296 * L <= ((u2 * 4294967296 + u1) * 4294967296 + u0) * L := Nat.mul_le_mul_right _ (Nat.le_trans (Nat.mul_le_mul_right _ (Nat.le_trans (Nat.mul_le_mul_right _ (show v1 + 1 <= u2 by omega)) (Nat.le_add_right _ _))) (Nat.le_add_right _ _));exact Nat.le_trans this (Nat.le_add_right _ _)
    have h5 : natV v * 4294967296 <= (v1 + 1) * 4294967296 * 4294967296 * L := by
      have h6 : natV v <= (v1 + 1) * 4294967296 * L := by
        rw [e1];have : (v1 * 4294967296 + v2) * L + L <= (v1 + 1) * 4294967296 * L := by
          have := Nat.mul_le_mul_right L (show v1 * 4294967296 + v2 + 1 <= (v1 + 1) * 4294967296 by omega);rw [Nat.add_mul (v1 * 4294967296 + v2) 1 L, Nat.one_mul] at this;exact this
        omega
      calc natV v * 4294967296 <= (v1 + 1) * 4294967296 * L * 4294967296 := Nat.mul_le_mul_right _ h6
        _ = _ := by grind
    omega
structure PU (u v:List Nat) (v1 high:Nat) where
 g:Nat
 r:Nat
 eq:g*v1+r=high
 ge:natV u/natV v<=g
 le:g<=4294967297
 hr:r<4294967296
omit h in
theorem Fp {a b c:Nat} (hb:0<b) (h:a<(c+1)*b):a/b<=c:=by
 have:=(Nat.div_lt_iff_lt_mul hb).2 h;omega
theorem vL.first: ∃k:PU u v v1 (u2*4294967296+u1),k.g=(u2*4294967296+u1)/v1/\k.r=(u2*4294967296+u1)%v1:=by
 have ht:=h.top;have hb1:=h.bv1;have hm:=Nat.mod_lt (u2*4294967296+u1) (show 0<v1 by omega);have hd:=Nat.div_add_mod (u2*4294967296+u1) v1;have hle:=h.u2_le;have hu1:=h.bu1;have hL:0<4294967296^n:=Nat.pow_pos (by omega);refine⟨⟨(u2*4294967296+u1)/v1,(u2*4294967296+u1)%v1,by rw[Nat.mul_comm];exact hd,?_,?_,by omega⟩,rfl,rfl⟩
 ·rw[Nat.le_div_iff_mul_le (by omega)];have e1:=h.eV;have e2:=h.eU;have h1:=h.ul;have h2:=h.bu0;refine Qi (U:=natV u) (V:=natV v) (L:=4294967296^n) ?_ ?_ (Nat.div_mul_le_self _ _) hL
  ·rw[e1];have:v1*4294967296*4294967296^n<=(v1*4294967296+v2)*4294967296^n:=Nat.mul_le_mul_right _ (by omega);omega
  rw[e2];have:((u2*4294967296+u1)*4294967296+u0)*4294967296^n+4294967296^n<=(u2*4294967296+u1+1)*4294967296*4294967296^n:=by
   have:=Nat.mul_le_mul_right (4294967296^n) (show(u2*4294967296+u1)*4294967296+u0+1<=(u2*4294967296+u1+1)*4294967296 by omega);rw[Nat.add_mul ((u2*4294967296+u1)*4294967296+u0) 1,Nat.one_mul]at this;exact this
  omega
 refine Fp (by omega) ?_;have:u2*4294967296<=v1*4294967296:=Nat.mul_le_mul_right _ hle;have e:(4294967297+1)*v1=v1*4294967296+2*v1:=by omega
 omega
theorem vL.down (k:PU u v v1 (u2*4294967296+u1)) (hc:4294967296<=k.g\/k.r*4294967296+u0<k.g*v2):natV u/natV v<k.g:=by
 rcases hc with hc|hc
 ·have:=h.q_lt;omega
 have e1:=h.eV;have e2:=h.eU;have h1:=h.ul;refine Qh (U:=natV u) (V:=natV v) (L:=4294967296^n) (high:=u2*4294967296+u1) ?_ ?_ (Nat.div_mul_le_self _ _) k.eq hc
 ·rw[e1];omega
 rw[e2,Nat.add_mul ((u2*4294967296+u1)*4294967296+u0) 1,Nat.one_mul];omega
theorem vL.near {g r:Nat} (heq:g*v1+r=u2*4294967296+u1) (hB:g<=4294967296) (hc:g*v2<=r*4294967296+u0):g<=natV u/natV v+1:=by
 have e1:=h.eV;have e2:=h.eU;have ht:=h.top;refine L2 (U:=natV u) (t3:=(u2*4294967296+u1)*4294967296+u0) e1 h.vl ?_ ?_ ?_ hB (by omega)
 ·rw[e2];omega
 ·have:=Nat.lt_div_mul_add (a:=natV u) h.vpos;rw[Nat.add_mul,Nat.one_mul];omega
 rw[<- heq];have e:g*(v1*4294967296+v2)=g*v1*4294967296+g*v2:=by grind
 have e':(g*v1+r)*4294967296=g*v1*4294967296+r*4294967296:=by grind
 omega
theorem vL.vlt:natV v<=4294967296^(n+2):=Nat.le_of_lt (by have:=fP h.lv;rw[h.nv]at this;exact this)
theorem vL.right {g:Nat} (m:K2 u v g) (hi:m.i=n+2) (hge:natV u/natV v<=g) (hno:m.c+m.b<=u2):g=natV u/natV v/\m.us++[u2-(m.c+m.b)]=bT (n+3) (natV u%natV v):=by
 have hv:=m.val;rw[hi,List.take_of_length_le (by rw[h.nv];exact ac _)]at hv;have hU:=bJ h.hu2;rw[List.take_of_length_le (by rw[h.nu];exact ac _)]at hU;have hml:m.us.length=n+2:=by rw[m.len,hi]
 have e:natV (m.us++[u2-(m.c+m.b)])+g*natV v=natV u:=by
  rw[nP,hml,hU];have:(u2-(m.c+m.b))*4294967296^(n+2)+(m.c+m.b)*4294967296^(n+2)=u2*4294967296^(n+2):=by
   rw[<- Nat.add_mul,Nat.sub_add_cancel hno]
  omega
 obtain⟨q1,q2⟩:=IL rfl hge e h.vpos;refine⟨q1,zT (mQ m.lmb ?_) (by simp[hml]) q2⟩;have:=h.bu2;omega
theorem vL.left {g t:Nat} (m:K2 u v g) (hi:m.i=n+2) (hle:g<=natV u/natV v+1) (hyes:u2<m.c+m.b) (ht:t=u2+4294967296-(m.c+m.b)) (a:K8 (m.us++[t]) v) (hai:a.i=n+2):
  g=natV u/natV v+1/\a.us++[(t+a.c)%4294967296]=bT (n+3) (natV u%natV v):=by
 have hv:=m.val;rw[hi,List.take_of_length_le (by rw[h.nv];exact ac _)]at hv;have hU:=bJ h.hu2;rw[List.take_of_length_le (by rw[h.nu];exact ac _)]at hU;have hml:m.us.length=n+2:=by rw[m.len,hi]
 have hbu:=h.bu2;have hmc:=m.hc;have hmb:=m.hb;have hav:=a.val;have e0:(m.us++[t]).take (n+2)=m.us:=by rw[List.take_append_of_le_length (by omega),List.take_of_length_le (by omega)]
 rw[hai,e0,List.take_of_length_le (by rw[h.nv];exact ac _)]at hav;have hW:=fP a.lmb;rw[a.len,hai]at hW;have e:natV m.us+t*4294967296^(n+2)+g*natV v=natV u+4294967296*4294967296^(n+2):=by
  rw[hU];have:t*4294967296^(n+2)+(m.c+m.b)*4294967296^(n+2)=(u2+4294967296)*4294967296^(n+2):=by
   rw[<- Nat.add_mul,ht,Nat.sub_add_cancel (by omega)]
  rw[Nat.add_mul u2]at this;omega
 have hlt:natV u<g*natV v:=by
  have h1:=fP m.lmb;rw[hml]at h1;have h2:(u2+1)*4294967296^(n+2)<=(m.c+m.b)*4294967296^(n+2):=Nat.mul_le_mul_right _ (by omega);rw[Nat.add_mul u2 1,Nat.one_mul]at h2;omega
 obtain⟨q1,q2,q3⟩:=L1 (T:=natV m.us) (t:=t) (c:=a.c) (W:=natV a.us) (Bn:=4294967296^(n+2)) rfl hle e hlt h.vpos h.vlt hW rfl hav a.hc (by omega);refine⟨q1,zT (mQ a.lmb (Nat.mod_lt _ (by omega))) (by simp[a.len,hai]) ?_⟩;rw[nP,q2,q3];simp
end
end
theorem lX {pre u post:List Nat} {off i x:Nat} (hp:pre.length=off) (h:u[i]?=some x):(pre++(u++post))[off+i]?=some x:=by
 have hi:=(List.getElem?_eq_some_iff.1 h).1;rw[ap (by omega),hp,Nat.add_sub_cancel_left,List.getElem?_append_left hi,h]
theorem sJ {pre u post:List Nat} {off i:Nat} (v:Nat) (hp:pre.length=off) (hi:i<u.length):(pre++(u++post)).set (off+i) v=pre++(u.set i v++post):=by
 rw[List.set_append_right _ _ (by omega),hp,Nat.add_sub_cancel_left,List.set_append_left _ _ hi]
theorem sK {us u:List Nat} {i:Nat} (v:Nat) (hus:us.length=i) (hi:i<u.length):(us++u.drop i).set i v=(us++[v])++u.drop (i+1):=by
 have hd:u.drop i=u[i]::u.drop (i+1):=List.drop_eq_getElem_cons hi;rw[hd,List.set_append_right _ _ (by omega),hus,Nat.sub_self,List.set_cons_zero,List.append_assoc];rfl
theorem yE {us u:List Nat} {i x:Nat} (hus:us.length=i) (hx:u[i]?=some x):(us++u.drop i)[i]?=some x:=by
 rw[ap (by omega),hus,Nat.sub_self,List.getElem?_drop,Nat.add_zero,hx]
theorem yG {us u:List Nat} {i:Nat} (hus:us.length=i) (hi:i<=u.length):(us++u.drop i).length=u.length:=by
 rw[List.length_append,hus,List.length_drop];omega
theorem Hh {P:Program} {k:Nat} {c z:Code} {Q:Exit->AS->Prop} {s:AS} (S:Nat->AS) (p:Nat->Prop) (h1:gB P k c (mf (fun s'=> ∃g,p g/\b8 s' (S g)) Q) s) (h2: ∀g,p g->gB P k z Q (S g)):gB P k c (mf (gB P k z Q) Q) s:=h1.mono fun e s' h=>by
 cases e with
 |normal=>obtain⟨g,hp,hw⟩:=h;exact(h2 g hp).weak hw
 |_=>exact h
theorem Rp (y lo b:Nat) (hy:y<4294967296) (hlo:lo<4294967296) (hb:b<=1):IntKind.u32.wrap (IntKind.u64.wrap (IntKind.u64.wrap ((y:Int)-(lo:Int))-(b:Int)))=(((y+8589934592-(lo+b))%4294967296:Nat):Int)/\
  Int.fdiv (IntKind.u64.wrap (IntKind.u64.wrap ((y:Int)-(lo:Int))-(b:Int))) (2^(min 63 IntKind.u64.bits))=(((if y<lo+b then 1 else 0):Nat):Int):=by
 constructor
 ·rw[IntKind.wrap_u32,IntKind.wrap_u64,IntKind.wrap_u64];omega
 rw[IntKind.wrap_u64,IntKind.wrap_u64];show Int.fdiv _ 9223372036854775808=_;rw[Int.fdiv_eq_ediv_of_nonneg _ (by omega)];split<;>omega
theorem vQ (pre u post v:List Nat) (off n v1 v2 u2 u1 u0:Nat) (hp:pre.length=off) (H:vL u v n v1 v2 u2 u1 u0) (bR:(pre++(u++post)).length<=536870912):
  pq Tryz.prog 180 [.undef,bA v] 0 off (n+3) ⟨79,1,lc fU (pre++(u++post))⟩ ⟨79,1,lc fU (pre++(bT (n+3) (natV u%natV v)++post))⟩ (.raw (.int .u32 ((natV u/natV v:Nat):Int))):=by
 have nu:=H.nu;have nv:=H.nv;have hv1:=H.hv1;have hv2:=H.hv2;have bv1:=H.bv1;have bv2:=H.bv2;have bu2:=H.bu2;have bu1:=H.bu1;have bu0:=H.bu0;have top:=H.top;have hqlt:=H.q_lt;have hRl:(pre++(u++post)).length=off+(n+3)+post.length:=by simp[hp,nu];omega
 have gu2:=lX (post:=post) hp H.hu2;have gu1:=lX (post:=post) hp H.hu1;have gu0:=lX (post:=post) hp H.hu0;refine pD Tryz.func180 rfl (by kernel_rfl) (by simp) (by omega) (by simp[lc]at hRl⊢;omega) (dC _ _) rfl (by simp[lc,bN,nu]) (dC _ _) rfl ?_;rw[Tryz.ntmps180];have e2:((n+2:Nat):Int)-1=((n+1:Nat):Int):=by omega
 have e3:((n+2:Nat):Int)-2=((n:Nat):Int):=by omega
 refine aX (by kernel_rfl) fun _ K=>?_;simp only[kd,bA,aa,ae];apply K
 refine aX (by kernel_rfl) fun _ K=>?_;simp only[kd,aa,nv];apply K
 have a1:=vF (a:=u2) (s:=32) (by omega) (by omega);have a2:=yr (u2*2^32) u1 (by omega) (by omega);rw[q9 u2 u1 32 (by omega),show u2*2^32+u1=u2*4294967296+u1 from rfl]at a2;obtain⟨high,hhigh⟩: ∃high,high=u2*4294967296+u1:=⟨_,rfl⟩;rw[<- hhigh]at a2;obtain⟨k0,hk1,hk2⟩: ∃k:PU u v v1 high,k.g=high/v1/\k.r=high%v1:=by rw[hhigh];exact H.first
 have hk3:=k0.le;have a3:Int.tdiv (high:Int) (v1:Int)=(k0.g:Int):=by rw[hk1];exact(Int.ofNat_tdiv _ _).symm
 have a4:Int.tmod (high:Int) (v1:Int)=(k0.r:Int):=by rw[hk2];exact(Int.ofNat_tmod _ _).symm
 generalize hR:pre++(u++post)=R at*
 refine ib aW (by kernel_rfl) (by kernel_rfl) fun _ K=>?_;simp(disch:=omega) only[kd,aa,famH,gu2,du,Int.reduceLE,am,a1,e2,aO,gu1,a2];apply K
 refine ib aW (by kernel_rfl) (by kernel_rfl) fun _ K=>?_;simp(disch:=omega) only[kd,aa,e2,aO,hv1,du,a3,a4];apply K
 refine dc (Hh (fun g=>⟨(.one (.sl 0 0 off (n+3))::bA v::jk::jk::jk::.raw (.int .i64 ((n+2:Nat):Int))::jk::.raw (.int .u64 (g:Int))::j16 (j16 (j16 (j16 (j16 (j16 (j16 (j16 (j16 (j16 (jk::jk::jk::[]))))))))))),Hm [(0,[⟨79,1,lc fU R⟩])]⟩) (fun g=>natV u/natV v<=g/\g<=natV u/natV v+1/\g<=4294967296) ?_ ?_)
 ·have H2:=H;subst hhigh;refine kF (G:=PU u v v1 (u2*4294967296+u1)) (fun k=>⟨(.one (.sl 0 0 off (n+3))::bA v::jk::jk::jk::.raw (.int .i64 ((n+2:Nat):Int))::jk::.raw (.int .u64 (k.g:Int))::.raw (.int .u64 (k.r:Int))::j16 (j16 (j16 (j16 (j16 (j16 (j16 (j16 (j16 (j16 (jk::jk::[]))))))))))),Hm [(0,[⟨79,1,lc fU R⟩])]⟩) (fun k=>k.g) k0 ?_ ?_
  ·refine aE ⟨rfl,trivial⟩ ?_;simp[wk]
  intro k;have kg:=k.le;have kr:=k.hr;have keq:=k.eq;have kge:=k.ge;have e5:=GY k.g
  -- the guess goes down
  have down:(4294967296<=k.g\/k.r*4294967296+u0<k.g*v2)->natV u/natV v<k.g:=H2.down k;have next:natV u/natV v<k.g->k.r+v1<4294967296-> ∃k':PU u v v1 (u2*4294967296+u1),k'.g=k.g-1/\k'.r=k.r+v1:=fun h1 h2=>by
   refine⟨⟨k.g-1,k.r+v1,?_,by omega,by omega,h2⟩,rfl,rfl⟩;refine Eq.trans ?_ keq;have:k.g*v1=(k.g-1)*v1+v1:=by
    obtain⟨m,hm⟩: ∃m,k.g=m+1:=⟨k.g-1,(Nat.succ_pred_eq_of_pos (Nat.lt_of_le_of_lt (Nat.zero_le _) h1)).symm⟩;rw[hm,Nat.add_sub_cancel,Nat.add_mul,Nat.one_mul]
   omega
  have stop:natV u/natV v<k.g->4294967296<=k.r+v1->natV u/natV v<=k.g-1/\k.g-1<=natV u/natV v+1/\k.g-1<=4294967296:=fun h1 h2=>by
   refine⟨by omega,?_,by omega⟩;refine H2.near (r:=k.r+v1) ?_ (by omega) ?_
   ·refine Eq.trans ?_ keq;have:k.g*v1=(k.g-1)*v1+v1:=by
     obtain⟨m,hm⟩: ∃m,k.g=m+1:=⟨k.g-1,(Nat.succ_pred_eq_of_pos (Nat.lt_of_le_of_lt (Nat.zero_le _) h1)).symm⟩;rw[hm,Nat.add_sub_cancel,Nat.add_mul,Nat.one_mul]
    omega
   have h3:(k.g-1)*v2<=4294967296*4294967295:=Nat.mul_le_mul (by omega) (by omega);have h4:4294967296*4294967296<=(k.r+v1)*4294967296:=Nat.mul_le_mul_right _ h2;omega
  have e7:(k.g:Int)-1=((k.g-1:Nat):Int)\/k.g=0:=by omega
  have e8:(k.r:Int)+(v1:Int)=((k.r+v1:Nat):Int):=by omega
  have e9:=GY (k.r+v1);by_cases hbig:4294967296<=k.g
  ·have hd:=down (.inl hbig)
   replace e7:=e7.resolve_right (by omega)
   refine dc (ib aW (by kernel_rfl) (by kernel_rfl) fun _ K=>?_);simp(disch:=omega) only[kd,aa,bA,Int.reduceLE,am,e5,reduceCtorEq];apply K;refine lA rfl (gO ?_);refine fA ?_;refine aX (by kernel_rfl) fun _ K=>?_;simp(disch:=omega) only[kd,aa,e7,du];apply K
   refine aX (by kernel_rfl) fun _ K=>?_;simp(disch:=omega) only[kd,aa,e2,aO,hv1,du,e8];apply K
   by_cases hover:4294967296<=k.r+v1
   ·refine aX (by kernel_rfl) fun _ K=>?_;simp(disch:=omega) only[kd,aa,Int.reduceLE,am,e9];apply K
    refine lA rfl (ms ?_);refine⟨k.g-1,stop hd hover,aE ⟨rfl,trivial⟩ ?_⟩;simp[wk]
   obtain⟨k',q1,q2⟩:=next hd (by omega);refine aX (by kernel_rfl) fun _ K=>?_;simp(disch:=omega) only[kd,aa,Int.reduceLE,am,e9];apply K
   refine mr rfl (gO ?_);refine⟨k',by omega,aE ⟨rfl,trivial⟩ ?_⟩;simp[wk,q1,q2]
  have hmul:k.g*v2<=4294967295*4294967295:=Nat.mul_le_mul (by omega) (by omega);have e10:(k.g:Int)*(v2:Int)=((k.g*v2:Nat):Int):=by simp
  have e11:=vF (a:=k.r) (s:=32) (by omega) (by omega);have e12:=yr (k.r*2^32) u0 (by omega) (by omega);rw[q9 k.r u0 32 (by omega),show k.r*2^32+u0=k.r*4294967296+u0 from rfl]at e12;by_cases hc:k.r*4294967296+u0<k.g*v2
  ·have hd:=down (.inr hc)
   replace e7:=e7.resolve_right (fun e=>by rw[e]at hd;exact absurd hd (Nat.not_lt_zero _))
   generalize k.g*v2=gv at*
   refine dc (ib aW (by kernel_rfl) (by kernel_rfl) fun _ K=>?_);simp(disch:=omega) only[kd,aa,bA,Int.reduceLE,am,e5,e3,aO,hv2,du,e10,e11,gu0,e12];apply K;refine lA rfl (gO ?_);refine fA ?_;refine aX (by kernel_rfl) fun _ K=>?_;simp(disch:=omega) only[kd,aa,e7,du];apply K
   refine aX (by kernel_rfl) fun _ K=>?_;simp(disch:=omega) only[kd,aa,e2,aO,hv1,du,e8];apply K
   by_cases hover:4294967296<=k.r+v1
   ·refine aX (by kernel_rfl) fun _ K=>?_;simp(disch:=omega) only[kd,aa,Int.reduceLE,am,e9];apply K
    refine lA rfl (ms ?_);refine⟨k.g-1,stop hd hover,aE ⟨rfl,trivial⟩ ?_⟩;simp[wk]
   obtain⟨k',q1,q2⟩:=next hd (by omega);refine aX (by kernel_rfl) fun _ K=>?_;simp(disch:=omega) only[kd,aa,Int.reduceLE,am,e9];apply K
   refine mr rfl (gO ?_);refine⟨k',by omega,aE ⟨rfl,trivial⟩ ?_⟩;simp[wk,q1,q2]
  have hnear:=H2.near keq (by omega) (Nat.le_of_not_lt hc);generalize k.g*v2=gv at*
  refine dc (ib aW (by kernel_rfl) (by kernel_rfl) fun _ K=>?_);simp(disch:=omega) only[kd,aa,bA,Int.reduceLE,am,e5,e3,aO,hv2,du,e10,e11,gu0,e12];apply K;refine mr rfl (ms ?_);refine⟨k.g,⟨kge,hnear,by omega⟩,aE ⟨rfl,trivial⟩ ?_⟩;simp[wk]
 rintro g ⟨hg1,hg2,hg3⟩;subst hR;clear gu2 gu1 gu0 a1 a2 a3 a4 hk1 hk2 hk3 k0;refine aX (by kernel_rfl) fun _ K=>?_;simp only[kd,bA];apply K
 refine dc (aX (by kernel_rfl) fun _ K=>?_);simp only[kd];apply K;refine kF (G:=K2 u v g) (fun m=>⟨(.one (.sl 0 0 off (n+3))::bA v::jk::jk::jk::.raw (.int .i64 ((n+2:Nat):Int))::jk::.raw (.int .u64 (g:Int))::jk::.raw (.int .u64 (m.c:Int))::.raw (.int .u64 (m.b:Int))::j16 (j16 (j16 (j16 (j4 (jk::jk::jk::.raw (.int .i64 ((n+2:Nat):Int))::rN m.i::j16 (j16 (j16 (j16 (j16 (j4 (jk::jk::jk::[])))))))))))),Hm [(0,[⟨79,1,lc fU (pre++((m.us++u.drop m.i)++post))⟩])]⟩) (fun m=>n+2-m.i) (K2.start u v g) ?_ ?_
 ·refine aE ⟨?_,trivial⟩ ?_
  ·simp[Hm,K2.start]
  simp[wk,K2.start]
 intro m;have hmi:=m.hi;have hmc:=m.hc;have hmb:=m.hb;have hml:=m.len;by_cases hlt:m.i<n+2
 ·obtain⟨x,hx⟩:=getElem?_of_lt (l:=v) (k:=m.i) (by omega);obtain⟨y,hy⟩:=getElem?_of_lt (l:=u) (k:=m.i) (by omega);have hx':=cu H.lv hx;have hy':=cu H.lu hy;obtain⟨c1,c2⟩:=An hg3 hx' hmc;have hgx:g*x<=4294967296*4294967295:=Nat.mul_le_mul hg3 (by omega);have e4:(g:Int)*(x:Int)=((g*x:Nat):Int):=by simp
  have e5:(m.c:Int)+((g*x:Nat):Int)=((m.c+g*x:Nat):Int):=by simp
  have hseg:=yE hml hy;have hsl:=yG (u:=u) hml (by omega);have hget:=lX (post:=post) hp hseg;have hlo:(m.c+g*x)%4294967296<4294967296:=Nat.mod_lt _ (by omega);obtain⟨b1,b2⟩:=Rp y ((m.c+g*x)%4294967296) m.b hy' hlo hmb;obtain⟨m',q1,q2,q3,q4⟩:=Mb m (l:=(y+8589934592-((m.c+g*x)%4294967296+m.b))%4294967296) (b':=if y<(m.c+g*x)%4294967296+m.b then 1 else 0) hg3 hx hy H.lv (Nat.mod_lt _ (by omega)) (by split<;>omega) (by split<;>omega);have hset:=sJ (post:=post) ((y+8589934592-((m.c+g*x)%4294967296+m.b))%4294967296) hp (show m.i<(m.us++u.drop m.i).length by omega);rw[sK _ hml (by omega)]at hset;have e6:=sR (m.c+g*x);have e7:=GY (m.c+g*x);have hrl:(pre++((m.us++u.drop m.i)++post)).length=off+(n+3)+post.length:=by simp only[List.length_append]at hRl hsl⊢;omega
  generalize(m.c+g*x)%4294967296=lo at*
  generalize(m.c+g*x)/4294967296=hi' at*
  generalize g*x=gx at*
  generalize(if y<lo+m.b then 1 else 0:Nat)=nb at*
  generalize(y+8589934592-(lo+m.b))%4294967296=nl at*
  generalize hRR:pre++((m.us++u.drop m.i)++post)=RR at*
  refine aX (by kernel_rfl) fun _ K=>?_;simp(disch:=omega) only[kd,bA];apply K
  refine qE rfl ?_;refine dc (fA ?_);refine aX (by kernel_rfl) fun _ K=>?_;simp only[kd];apply K
  refine aX (by kernel_rfl) fun _ K=>?_;simp(disch:=omega) only[kd,aa,hx,du,e4,e5];apply K
  refine aX (by kernel_rfl) fun _ K=>?_;simp(disch:=omega) only[kd,aa,hget,du,e6];apply K
  refine aX (by kernel_rfl) fun _ K=>?_;simp(disch:=omega) only[kd,aa,b1,hget,dG,hset];apply K
  refine aX (by kernel_rfl) fun _ K=>?_;simp only[kd,aa,Int.reduceLE,am,e7];apply K
  refine d9 (by kernel_rfl) fun _ K=>?_;simp only[kd,aa,Int.reduceLE,am,b2];apply K
  show gB _ _ _ _ _;refine d9 (by kernel_rfl) fun _ K=>?_;simp(disch:=omega) only[kd,aO];apply K
  refine⟨m',by omega,aE ⟨?_,trivial⟩ ?_⟩
  ·rw[q1,q2];rfl
  simp[wk,q1,q3,q4]
 have hie:m.i=n+2:=by omega
 have hseg:(m.us++u.drop m.i)[n+2]?=some u2:=by
  have:=yE hml (show u[m.i]?=some u2 by rw[hie];exact H.hu2);rwa[hie]at this⊢
 have hsl:=yG (u:=u) hml (by omega);have hget:=lX (post:=post) hp hseg;have hset:=fun t=>sJ (post:=post) t hp (show n+2<(m.us++u.drop m.i).length by omega)
 have hse: ∀t,(m.us++u.drop m.i).set (n+2) t=m.us++[t]:=fun t=>by
  have:=sK (u:=u) t hml (by omega);rw[List.drop_eq_nil_iff.2 (show u.length<=m.i+1 by omega),List.append_nil,hie]at this;rw[hie];exact this
 simp only[hse]at hset;obtain⟨b1,b2⟩:=Rp u2 m.c m.b bu2 hmc hmb;have hrl:(pre++((m.us++u.drop m.i)++post)).length=off+(n+3)+post.length:=by simp only[List.length_append]at hRl hsl⊢;omega
 by_cases hno:m.c+m.b<=u2
 ·have b3:(u2:Int)-(m.c:Int)-(m.b:Int)=((u2-(m.c+m.b):Nat):Int):=by omega
  have b4:Int.fdiv ((u2-(m.c+m.b):Nat):Int) (2^(min 63 IntKind.u64.bits))=0:=by
   rw[C9 (by omega)];have:(u2-(m.c+m.b))/2^63=0:=Nat.div_eq_of_lt (by omega);rw[this];rfl
  have hnl:u2-(m.c+m.b)<4294967296:=by omega
  obtain⟨q1,q2⟩:=H.right m hie hg1 hno;have hs:=hset (u2-(m.c+m.b));rw[q2]at hs;have e7:IntKind.u32.wrap (g:Int)=((natV u/natV v:Nat):Int):=by rw[sR,q1];omega
  generalize u2-(m.c+m.b)=nl at*
  generalize hRR:pre++((m.us++u.drop m.i)++post)=RR at*
  refine aX (by kernel_rfl) fun _ K=>?_;simp(disch:=omega) only[kd,bA];apply K
  refine td rfl ?_;show gB _ _ _ _ _;refine aX (by kernel_rfl) fun _ K=>?_;simp(disch:=omega) only[kd,aa,hget,du,b3];apply K
  refine aX (by kernel_rfl) fun _ K=>?_;simp(disch:=omega) only[kd,aa,ES,hget,dG,hs];apply K
  refine dc (aX (by kernel_rfl) fun _ K=>?_);simp(disch:=omega) only[kd,aa,Int.reduceLE,am,b4];apply K;refine lA rfl ?_;refine aX (by kernel_rfl) fun _ K=>?_;simp only[kd,aa,e7];apply K
  refine nC ⟨.inr rfl,⟨(.one (.sl 0 0 off (n+3))::jk::jk::jk::.raw (.int .u32 ((natV u/natV v:Nat):Int))::j16 (j16 (j16 (j16 (j16 (j16 (j16 (j16 (j16 (j16 (j4 (jk::jk::[])))))))))))),Hm [(0,[⟨79,1,lc fU (pre++(bT (n+3) (natV u%natV v)++post))⟩])]⟩,aE ⟨rfl,trivial⟩ (by simp[wk]),rfl,qT _,?_⟩;simp(disch:=omega) only[kd,Tryz.results180]
 rw[if_pos (by omega)]at b2;obtain⟨t,ht⟩: ∃t,t=u2+4294967296-(m.c+m.b):=⟨_,rfl⟩;have ht4:t<4294967296:=by omega
 rw[show(u2+8589934592-(m.c+m.b))%4294967296=t by omega]at b1;have hs:=hset t;have lu':Lmb (m.us++[t]):=mQ m.lmb ht4;have nu':(m.us++[t]).length=n+3:=by rw[List.length_append,hml,hie];rfl
 have hleft:=fun a hai=>H.left m hie hg2 (by omega) ht a hai
 have htop:(m.us++[t])[n+2]?=some t:=by rw[ap (by omega),hml,hie,Nat.sub_self];rfl
 clear hset hse hno ht;generalize hRR:pre++((m.us++u.drop m.i)++post)=RR at*
 refine aX (by kernel_rfl) fun _ K=>?_;simp(disch:=omega) only[kd,bA];apply K
 refine td rfl ?_;show gB _ _ _ _ _;refine aX (by kernel_rfl) fun _ K=>?_;simp(disch:=omega) only[kd,aa,hget,du];apply K
 refine aX (by kernel_rfl) fun _ K=>?_;simp(disch:=omega) only[kd,aa,b1,hget,dG,hs];apply K
 refine dc (aX (by kernel_rfl) fun _ K=>?_);simp(disch:=omega) only[kd,aa,Int.reduceLE,am,b2];apply K;refine mr rfl (gO ?_);show gB _ _ _ _ _;refine aX (by kernel_rfl) fun _ K=>?_;simp only[kd];apply K
 refine dc (aX (by kernel_rfl) fun _ K=>?_);simp only[kd];apply K;refine kF (G:=K8 (m.us++[t]) v) (fun a=>⟨(.one (.sl 0 0 off (n+3))::bA v::jk::jk::jk::.raw (.int .i64 ((n+2:Nat):Int))::jk::.raw (.int .u64 (g:Int))::jk::.raw (.int .u64 (a.c:Int))::j16 (j16 (j16 (j16 (j16 (j16 (j16 (j4 (j4 (j4 (jk::.raw (.int .i64 ((n+2:Nat):Int))::rN a.i::j16 (j16 (jk::jk::[]))))))))))))),Hm [(0,[⟨79,1,lc fU (pre++((a.us++(m.us++[t]).drop a.i)++post))⟩])]⟩) (fun a=>n+2-a.i) (K8.start _ _) ?_ ?_
 ·refine aE ⟨?_,trivial⟩ ?_
  ·simp[Hm,K8.start,bi]
  simp[wk,K8.start]
 intro a;have hai:=a.hi;have hac:=a.hc;have hal:=a.len;generalize m.us++[t]=U' at*
 have hsl2:=yG (u:=U') hal (by omega);have hrl2:(pre++((a.us++U'.drop a.i)++post)).length=off+(n+3)+post.length:=by simp only[List.length_append]at hsl2⊢;omega
 by_cases hlt2:a.i<n+2
 ·obtain⟨x,hx⟩:=getElem?_of_lt (l:=v) (k:=a.i) (by omega);obtain⟨y,hy⟩:=getElem?_of_lt (l:=U') (k:=a.i) (by omega);have hx':=cu H.lv hx;have hy':=cu lu' hy;have hget2:=lX (post:=post) hp (yE hal hy);have hset2:=sJ (post:=post) ((a.c+(y+x))%4294967296) hp (show a.i<(a.us++U'.drop a.i).length by omega);rw[sK _ hal (by omega)]at hset2;obtain⟨a',q1,q2,q3⟩:=Ln a hx hy H.lv lu';have e4:(a.c:Int)+((y:Int)+(x:Int))=((a.c+(y+x):Nat):Int):=by omega
  have e6:=sR (a.c+(y+x));have e7:=GY (a.c+(y+x));generalize(a.c+(y+x))%4294967296=nl at*
  generalize(a.c+(y+x))/4294967296=nc at*
  generalize hR2:pre++((a.us++U'.drop a.i)++post)=R2 at*
  refine aX (by kernel_rfl) fun _ K=>?_;simp(disch:=omega) only[kd,bA];apply K
  refine qE rfl ?_;refine dc (fA ?_);refine aX (by kernel_rfl) fun _ K=>?_;simp only[kd];apply K
  refine ib aW (by kernel_rfl) (by kernel_rfl) fun _ K=>?_;simp(disch:=omega) only[kd,aa,hget2,du,hx,e4];apply K
  refine aX (by kernel_rfl) fun _ K=>?_;simp(disch:=omega) only[kd,aa,e6,hget2,dG,hset2];apply K
  refine d9 (by kernel_rfl) fun _ K=>?_;simp only[kd,aa,Int.reduceLE,am,e7];apply K
  show gB _ _ _ _ _;refine d9 (by kernel_rfl) fun _ K=>?_;simp(disch:=omega) only[kd,aO];apply K
  refine⟨a',by omega,aE ⟨?_,trivial⟩ ?_⟩
  ·rw[q1,q2];rfl
  simp[wk,q1,q3]
 have hae:a.i=n+2:=by omega
 obtain⟨q1,q2⟩:=hleft a hae;have hget2:(pre++((a.us++U'.drop a.i)++post))[off+(n+2)]?=some t:=by
  have:=lX (post:=post) hp (yE hal (show U'[a.i]?=some t by rw[hae];exact htop));rwa[hae]at this⊢
 have hset2:=sJ (post:=post) ((t+a.c)%4294967296) hp (show a.i<(a.us++U'.drop a.i).length by omega);rw[sK _ hal (by omega),List.drop_eq_nil_iff.2 (show U'.length<=a.i+1 by omega),List.append_nil,q2,hae]at hset2;have e4:IntKind.u32.wrap ((t:Int)+(a.c:Int))=(((t+a.c)%4294967296:Nat):Int):=by rw[<- sR];congr 1<;>omega
 have e5:(g:Int)-1=((natV u/natV v:Nat):Int):=by rw[q1];simp
 have e6:IntKind.u32.wrap ((natV u/natV v:Nat):Int)=((natV u/natV v:Nat):Int):=by rw[sR];congr 1;exact Nat.mod_eq_of_lt hqlt
 have e8:IntKind.u64.wrap ((natV u/natV v:Nat):Int)=((natV u/natV v:Nat):Int):=by
  generalize natV u/natV v=qq at*
  rw[IntKind.wrap_u64];omega
 have hRe:pre++((a.us++U'.drop a.i)++post)=pre++((a.us++U'.drop (n+2))++post):=by rw[hae]
 generalize(t+a.c)%4294967296=nl at*
 rw[<- hRe]at hset2;generalize hR2:pre++((a.us++U'.drop a.i)++post)=R2 at*
 refine aX (by kernel_rfl) fun _ K=>?_;simp(disch:=omega) only[kd,bA];apply K
 refine td rfl ?_;show gB _ _ _ _ _;refine aX (by kernel_rfl) fun _ K=>?_;simp(disch:=omega) only[kd,aa,hget2,ES,e4,dG,hset2];apply K
 refine aX (by kernel_rfl) fun _ K=>?_;simp only[kd,aa,e5,e8,e6];apply K
 refine nC ⟨.inr rfl,⟨(.one (.sl 0 0 off (n+3))::jk::jk::jk::.raw (.int .u32 ((natV u/natV v:Nat):Int))::j16 (j16 (j16 (j16 (j16 (j16 (j16 (j16 (j16 (j16 (j4 (jk::jk::[])))))))))))),Hm [(0,[⟨79,1,lc fU (pre++(bT (n+3) (natV u%natV v)++post))⟩])]⟩,aE ⟨rfl,trivial⟩ (by simp[wk]),rfl,qT _,?_⟩;simp(disch:=omega) only[kd,Tryz.results180]
section
theorem mW: ∀(k n x:Nat),bT (k+n) x=bT k x++bT n (x/4294967296^k)
 |0,n,x=>by simp[bT]
 |k+1,n,x=>by
  rw[show k+1+n=(k+n)+1 by omega,bT,mW k n,bT,Nat.div_div_eq_div_mul,Nat.pow_succ,Nat.mul_comm 4294967296];rfl
theorem uF: ∀(k x:Nat),bT k (x%4294967296^k)=bT k x
 |0,x=>rfl
 |k+1,x=>by
  rw[bT,bT,Nat.pow_succ,Nat.mul_comm (4294967296^k),Nat.mod_mul_right_mod,Nat.mod_mul_right_div_self,uF k]
theorem pW (k n x y:Nat) (hx:x<4294967296^k):bT (k+n) (y*4294967296^k+x)=bT k x++bT n y:=by
 have hp:0<4294967296^k:=Nat.pow_pos (by omega);rw[mW,<- uF k (y*4294967296^k+x),Nat.mul_comm y,Nat.mul_add_mod,Nat.mod_eq_of_lt hx,Nat.mul_add_div hp,Nat.div_eq_of_lt hx,Nat.add_zero]
theorem w7: ∀n,bT n 0=ae n 0
 |0=>rfl
 |n+1=>by rw[bT,Nat.zero_mod,Nat.zero_div,w7 n];rfl
def ff (A V k:Nat):Nat:=A%(V*4294967296^k)
def kW (A V k:Nat):Nat:=A/(V*4294967296^k)*4294967296^k
section
variable {A V k:Nat} (hV:0<V)
include hV
theorem JT : ff A V (k + 1) / 4294967296 ^ k < V * 4294967296 := by
  have hp : 0 < 4294967296 ^ k := Nat.pow_pos (by omega);rw [Nat.div_lt_iff_lt_mul hp];have := Nat.mod_lt A (show 0 < V * 4294967296 ^ (k + 1) from Nat.mul_pos hV (Nat.pow_pos (by omega)));rw [Nat.pow_succ] at this;unfold ff;rw [Nat.pow_succ]
  calc _ < V * (4294967296 ^ k * 4294967296) := this
    _ = _ := by grind
omit hV in
theorem JV:ff A V k=ff A V (k+1)/4294967296^k%V*4294967296^k+ff A V (k+1)%4294967296^k:=by
 unfold ff;have e:V*4294967296^(k+1)=V*4294967296^k*4294967296:=by rw[Nat.pow_succ];grind
 have h1:A%(V*4294967296^k)=A%(V*4294967296^(k+1))%(V*4294967296^k):=by rw[e,Nat.mod_mul_right_mod]
 rw[h1];generalize A%(V*4294967296^(k+1))=x;rw[Nat.mul_comm V,Nat.mod_mul];generalize 4294967296^k=p;rw[Nat.add_comm,Nat.mul_comm p]
theorem JK:kW A V k=kW A V (k+1)+ff A V (k+1)/4294967296^k/V*4294967296^k:=by
 unfold kW ff;have hp:0<4294967296^k:=Nat.pow_pos (by omega);have e:V*4294967296^(k+1)=V*4294967296^k*4294967296:=by rw[Nat.pow_succ];grind
 have h1:=Nat.div_add_mod A (V*4294967296^(k+1));generalize hq:A/(V*4294967296^(k+1))=q at*
 generalize hr:A%(V*4294967296^(k+1))=r at*
 have h2:A/(V*4294967296^k)=q*4294967296+r/4294967296^k/V:=by
  rw[<- h1,e,Nat.mul_assoc (V*4294967296^k),Nat.mul_add_div (Nat.mul_pos hV hp),Nat.div_div_eq_div_mul,Nat.mul_comm (4294967296^k) V,Nat.mul_comm 4294967296]
 rw[h2,Nat.pow_succ];grind
theorem pZ:ff A V (k+1)/4294967296^k/V<4294967296:=by
 rw[Nat.div_lt_iff_lt_mul hV,Nat.mul_comm];exact JT hV
end
theorem Mu {A V k m:Nat} (hV:0<V) (hk:k<m) (hb:kW A V (k+1)<4294967296^m):(bT m (kW A V (k+1))).set k (ff A V (k+1)/4294967296^k/V)=bT m (kW A V k):=by
 have hd:=pZ (A:=A) (k:=k) hV;rw[JK (A:=A) (k:=k) hV];generalize ff A V (k+1)/4294967296^k/V=d at*
 obtain⟨q,hq⟩: ∃q,kW A V (k+1)=q*4294967296^(k+1):=⟨_,rfl⟩;rw[hq];obtain⟨r,rfl⟩: ∃r,m=k+(1+r):=⟨m-(k+1),by omega⟩;have e1:q*4294967296^(k+1)=(q*4294967296)*4294967296^k+0:=by rw[Nat.pow_succ];grind
 have e2:q*4294967296^(k+1)+d*4294967296^k=(q*4294967296+d)*4294967296^k+0:=by rw[Nat.pow_succ];grind
 have hp:0<4294967296^k:=Nat.pow_pos (by omega);rw[e2,pW _ _ _ _ hp,e1,pW _ _ _ _ hp,List.set_append_right _ _ (by rw[bN];exact ac _),bN,Nat.sub_self,Nat.add_comm 1 r,bT,bT,List.set_cons_zero];have a1:(q*4294967296+d)%4294967296=d:=by omega
 have a2:(q*4294967296+d)/4294967296=q*4294967296/4294967296:=by omega
 rw[a1,a2]
theorem ML {A V k nb na:Nat} (hk:k+nb<=na):bT (na+1) (ff A V (k+1))=bT k (ff A V (k+1))++(bT (nb+1) (ff A V (k+1)/4294967296^k)++bT (na-(k+nb)) (ff A V (k+1)/4294967296^(k+nb+1))):=by
 conv=>lhs;rw[show na+1=k+((nb+1)+(na-(k+nb))) by omega]
 rw[mW,mW,Nat.div_div_eq_div_mul,<- Nat.pow_add,show k+(nb+1)=k+nb+1 by omega]
theorem JU {A V k nb na:Nat} (hV:0<V) (hVB:V<=4294967296^nb) (hk:k+nb<=na):bT k (ff A V (k+1))++(bT (nb+1) (ff A V (k+1)/4294967296^k%V)++bT (na-(k+nb)) (ff A V (k+1)/4294967296^(k+nb+1)))=bT (na+1) (ff A V k):=by
 have hp:0<4294967296^k:=Nat.pow_pos (by omega);have hz:ff A V (k+1)/4294967296^(k+nb+1)=0:=by
  apply Nat.div_eq_of_lt;have:=Nat.mod_lt A (show 0<V*4294967296^(k+1)from Nat.mul_pos hV (Nat.pow_pos (by omega)));unfold ff;refine Nat.lt_of_lt_of_le this ?_;have e:4294967296^(k+nb+1)=4294967296^nb*4294967296^(k+1):=by rw[<- Nat.pow_add];congr 1;omega
  rw[e];exact Nat.mul_le_mul_right _ hVB
 have hm:=Nat.mod_lt (ff A V (k+1)/4294967296^k) hV;rw[JV (A:=A) (V:=V) (k:=k),hz];generalize ff A V (k+1)/4294967296^k%V=u at*
 rw[<- uF k (ff A V (k+1))];have hx:=Nat.mod_lt (ff A V (k+1)) hp;generalize ff A V (k+1)%4294967296^k=x at*
 have hu:u<4294967296^(nb+1):=by
  have:4294967296^nb<=4294967296^(nb+1):=Nat.pow_le_pow_right (by omega) (by omega);omega
 rw[show na+1=k+((nb+1)+(na-(k+nb))) by omega,pW _ _ _ _ hx]
 congr 1
 have:=pW (nb+1) (na-(k+nb)) u 0 hu;rw[Nat.zero_mul,Nat.zero_add]at this;exact this.symm
/-! The shift. -/
theorem zC: ∀(x:Nat),x≠0->x<18446744073709551616->1<=Lib.bitLen x/\2^(Lib.bitLen x-1)<=x/\x<2^Lib.bitLen x:=fun x=>by
 induction x using Nat.strongRecOn with
 |_ x ih=>
  intro h0 hx;have hh:=Lib.bitLen_half x h0 hx;by_cases h1:x/2=0
  ·have hx1:x=1:=by omega
   subst hx1;have:Lib.bitLen 1=1:=by decide
   rw[this];exact⟨by omega,by decide,by decide⟩
  obtain⟨q1,q2,q3⟩:=ih (x/2) (by omega) h1 (by omega);rw[hh];refine⟨by omega,?_,?_⟩
  ·rw[show 1+Lib.bitLen (x/2)-1=(Lib.bitLen (x/2)-1)+1 by omega,Nat.pow_succ];omega
  rw[Nat.add_comm,Nat.pow_succ];omega
def lz (x:Nat):Nat:=32-Lib.bitLen x
theorem L7 {x : Nat} (h0 : x ≠ 0) (hx : x < 4294967296) : lz x < 32 /\ 2147483648 <= x * 2 ^ lz x /\ x * 2 ^ lz x < 4294967296 := by
  obtain ⟨h1, h2, h3⟩ := zC x h0 (by omega);have h4 := Lib.bitLen_le x 32 (by omega) (by simpa using hx);unfold lz;refine ⟨by omega, ?_, ?_⟩
  · calc 2147483648 = 2 ^ (Lib.bitLen x - 1) * 2 ^ (32 - Lib.bitLen x) := by
          rw [<- Nat.pow_add, show Lib.bitLen x - 1 + (32 - Lib.bitLen x) = 31 by omega]
      _ <= _ := Nat.mul_le_mul_right _ h2
  · calc x * 2 ^ (32 - Lib.bitLen x) < 2 ^ Lib.bitLen x * 2 ^ (32 - Lib.bitLen x) := Nat.mul_lt_mul_of_pos_right h3 (Nat.two_pow_pos _)
      _ = 4294967296 := by rw [<- Nat.pow_add, show Lib.bitLen x + (32 - Lib.bitLen x) = 32 by omega]
theorem M2 {b n x s : Nat} (hl : (aQ b).length = n + 1) (hx : (aQ b)[n]? = some x) (hs : 2147483648 <= x * 2 ^ s /\ x * 2 ^ s < 4294967296) (hs32 : s < 32) :
    b * 2 ^ s < 4294967296 ^ (n + 1) /\ 2147483648 * 4294967296 ^ n <= b * 2 ^ s := by
  have h1 := bJ hx;rw [List.take_of_length_le (by omega), aP] at h1;have h2 := fm (aV b) n;have hp : 0 < 4294967296 ^ n := Nat.pow_pos (by omega);have hps := Az hs32;constructor
  · -- b < (x + 1) B^n, and (x + 1) 2^s <= B, for x 2^s < B and 2^s divides B
    have h3 : (x + 1) * 2 ^ s <= 4294967296 := by
      have e : 4294967296 = 2 ^ (32 - s) * 2 ^ s := by rw [<- Nat.pow_add, show 32 - s + s = 32 by omega]
      rw [e] at hs ⊢;exact Nat.mul_le_mul_right _ (Nat.lt_of_mul_lt_mul_right hs.2)
    calc b * 2 ^ s < (x + 1) * 4294967296 ^ n * 2 ^ s := by
          refine Nat.mul_lt_mul_of_pos_right ?_ (Nat.two_pow_pos s);rw [h1, Nat.add_mul, Nat.one_mul]; omega
      _ = (x + 1) * 2 ^ s * 4294967296 ^ n := by grind
      _ <= 4294967296 * 4294967296 ^ n := Nat.mul_le_mul_right _ h3
      _ = 4294967296 ^ (n + 1) := by rw [Nat.pow_succ, Nat.mul_comm]
  · calc 2147483648 * 4294967296 ^ n <= x * 2 ^ s * 4294967296 ^ n := Nat.mul_le_mul_right _ hs.1
      _ = x * 4294967296 ^ n * 2 ^ s := by grind
      _ <= b * 2 ^ s := Nat.mul_le_mul_right _ (by omega)
end
theorem OP {A V k n : Nat} (hV1 : V < 4294967296 ^ (n + 2)) (hV2 : 2147483648 * 4294967296 ^ (n + 1) <= V) : ∃ v1 v2 u2 u1 u0, vL (bT (n + 3) (ff A V (k + 1) / 4294967296 ^ k)) (bT (n + 2) V) n v1 v2 u2 u1 u0 /\ natV (bT (n + 3) (ff A V (k + 1) / 4294967296 ^ k)) = ff A V (k + 1) / 4294967296 ^ k /\ natV (bT (n + 2) V) = V := by
  have hp : 0 < 4294967296 ^ (n + 1) := Nat.pow_pos (by omega);have hV : 0 < V := by omega
  have hr := JT (A := A) (k := k) hV;have hlt : ff A V (k + 1) / 4294967296 ^ k < 4294967296 ^ (n + 3) := by
    calc _ < V * 4294967296 := hr
      _ <= 4294967296 ^ (n + 2) * 4294967296 := Nat.mul_le_mul_right _ (Nat.le_of_lt hV1)
      _ = _ := (Nat.pow_succ ..).symm
  refine ⟨_, _, _, _, _, ⟨mP _ _, mP _ _, bN _ _, bN _ _, fK (by omega), fK (by omega), fK (by omega), fK (by omega), fK (by omega), ?_, ?_⟩, fQ hlt, fQ hV1⟩
  · have h1 : V / 4294967296 ^ (n + 1) < 4294967296 := by
      rw [Nat.div_lt_iff_lt_mul hp];have : 4294967296 ^ (n + 2) = 4294967296 ^ (n + 1) * 4294967296 := Nat.pow_succ ..;omega
    rw [Nat.mod_eq_of_lt h1, Nat.le_div_iff_mul_le hp];exact hV2
  · rw [fQ hlt, fQ hV1]; exact hr
theorem Gl {a b s n m:Nat} (ha:a<4294967296^(n+2+m)) (hb:4294967296^(n+1)<=b):ff (a*2^s) (b*2^s) (m+1)=a*2^s/\kW (a*2^s) (b*2^s) (m+1)=0:=by
 have h1:a*2^s<b*2^s*4294967296^(m+1):=by
  have h2:4294967296^(n+2+m)<=b*4294967296^(m+1):=by
   have e:4294967296^(n+2+m)=4294967296^(n+1)*4294967296^(m+1):=by rw[<- Nat.pow_add];congr 1;omega
   rw[e];exact Nat.mul_le_mul_right _ hb
  rw[Nat.mul_right_comm];exact Nat.mul_lt_mul_of_pos_right (Nat.lt_of_lt_of_le ha h2) (Nat.two_pow_pos s)
 unfold ff kW;rw[Nat.mod_eq_of_lt h1,Nat.div_eq_of_lt h1,Nat.zero_mul];exact⟨rfl,rfl⟩
theorem MK {a b s:Nat}:ff (a*2^s) (b*2^s) 0=a%b*2^s/\kW (a*2^s) (b*2^s) 0=a/b:=by
 unfold ff kW;rw[Nat.pow_zero,Nat.mul_one,Nat.mul_one,Nat.mul_mod_mul_right,Nat.mul_div_mul_right _ _ (Nat.two_pow_pos s)];exact⟨rfl,rfl⟩
theorem O5 {A V k m:Nat} (hA:A<V*4294967296^m) (hk:k<=m):kW A V k<4294967296^m:=by
 have hp:0<4294967296^k:=Nat.pow_pos (by omega);unfold kW;have h1:A/(V*4294967296^k)<4294967296^(m-k):=by
  rw[<- Nat.div_div_eq_div_mul];apply Nat.div_lt_of_lt_mul;apply Nat.div_lt_of_lt_mul;have e:4294967296^m=4294967296^k*4294967296^(m-k):=by rw[<- Nat.pow_add];congr 1;omega
  rw[e]at hA;exact hA
 have e:4294967296^m=4294967296^(m-k)*4294967296^k:=by rw[<- Nat.pow_add];congr 1;omega
 rw[e];exact Nat.mul_lt_mul_of_pos_right h1 hp
theorem A4 {b n:Nat} (h:(aQ b).length=n+1): ∃x,(aQ b)[n]?=some x/\x≠0/\x<4294967296/\4294967296^n<=b:=by
 obtain⟨x,hx⟩: ∃x,(aQ b)[n]?=some x:=⟨(aQ b)[n],by simp[h]⟩;have hc:=ce b;unfold oE at hc;rw[List.getLast?_eq_getElem?,h,Nat.add_sub_cancel,hx]at hc;have hx0:x≠0:=fun e=>hc (by rw[e])
 have h1:=bJ hx;rw[List.take_of_length_le (by omega),aP]at h1;refine⟨x,hx,hx0,cu (aV b) hx,?_⟩;rw[h1];have:1*4294967296^n<=x*4294967296^n:=Nat.mul_le_mul_right _ (by omega);omega
theorem FI {b:Nat} (h:(aQ b).length=1):(aQ b)[0]?=some b/\b<4294967296:=by
 obtain⟨x,hx,_,hx',_⟩:=A4 (n:=0) h;have h1:=bJ hx;rw[List.take_of_length_le (by omega),aP]at h1;simp[natV]at h1;subst h1;exact⟨hx,hx'⟩
theorem Ai (a:Nat):a<4294967296^(aQ a).length:=by
 have:=fP (aV a);rwa[aP]at this
theorem Gd {n m x:Nat} (h:n<=m):(bT m x).take n=bT n x:=by
 obtain⟨d,rfl⟩: ∃d,m=n+d:=⟨m-n,by omega⟩;rw[mW,List.take_left' (bN _ _)]
theorem Qg (x:Nat) (h:x<4294967296):CallC Tryz.prog 178 [.raw (.int .u32 (x:Int))] ⟨[],.raw (.int .i64 (lz x:Int))⟩:=by
 refine ij (by kernel_rfl) fun X w vs hX hvs ha=>?_
 obtain⟨v0,e0,r0⟩:=mB ha (j:=0) rfl;obtain⟨rfl,_⟩:=cf (ρ:=fun _ _=>none) (H:=fun _=>[]) r0;obtain rfl:vs= #[.int .u32 (x:Int)]:=by
  apply Array.ext_getElem?;intro j
  match j with
  |0=>exact e0
  |j+1=>rw[Array.getElem?_eq_none (by simp at hvs;omega)];rfl
 have hb:=Lib.bitLen_le x 32 (by omega) (by simpa using h);have e:(32-(Lib.bitLen (x:Int).toNat:Int))=(lz x:Int):=by rw[Int.toNat_natCast];unfold lz;omega
 have:=Any.bits_LeadingZeros32 Tryz.lays133 (x:Int) w (by omega) (by omega);rw[e]at this;exact this.mono fun e w' ⟨h1,h2⟩=>⟨_,h1,fun ρ H Y=>dD rfl,by rw[h2];exact Ext.refl _⟩
theorem Ff {P:Program} {f:FuncId} {args:List TV} {l:List Nat} (hl:0<l.length) (hc:callable P f=true) (h: ∀(X:Nat->Prop) (w:World) (vs:Array Value),(∀b,X b->b<w.heap.size)->vs.size=args.length->
  (∀(j:Nat) t,args[j]?=some t-> ∃v:Value,vs[j]?=some v/\t.rel (fun _ _=>none) (fun _=>[]) X w v)->Calls P f vs w fun e w'=> ∃v,e= .returned v/\w'.ownsRow w.heap.size 79 1 v l.length ((l.map fun n:Nat=>(n:Int)).map (Value.int .u32))/\Ext w w'):CallC P f args ⟨[⟨79,1,lc fU l⟩],.one (.sl 0 0 0 l.length)⟩:=
 ⟨hc,fun X w vs hX hvs ha=>(h X w vs hX hvs ha).mono fun e w' ⟨v,h1,⟨_,h2⟩,h3⟩=>by
  rcases h2 with⟨_,hn⟩|⟨g,cap,cur,hv,hg,hh,hnc,hm2,hs,ht⟩
  ·omega
  have hr:rho1 g cap 0 0=some (g,cap):=by simp[rho1]
  have hcell: ∀(i:Nat) z,l[i]?=some z->cur[i]?=some (.int .u32 (z:Int)):=fun i z hz=>by
   have h3:((l.map fun n:Nat=>(n:Int)).map (Value.int .u32))[i]?=some (.int .u32 (z:Int)):=by rw[List.getElem?_map,List.getElem?_map,hz];rfl
   rw[<- ht,List.getElem?_take]at h3;split at h3
   ·simpa using h3
   cases h3
  refine⟨v,h1,rho1 g cap,⟨zW h3,fun a r o ho=>?_,fun a r a' r' o o' b c c' ho ho' _ _=>?_,fun a r o b c ho hb=>?_,fun b hb=>Nat.lt_of_lt_of_le (hX b hb) h3.size,fun a r o ho=>?_⟩,?_⟩
  ·obtain⟨rfl,rfl,rfl⟩:=rZ ho;refine⟨fun e he=>?_,Nat.zero_lt_one,?_⟩
   ·obtain⟨z,_,rfl⟩:=List.mem_map.1 he;rfl
   rw[hr];refine⟨cur,hh,hs,by rw[uh];exact hnc,hm2,fun i e j x he hx=>?_⟩;simp only at he;rw[Cj]at he;obtain⟨z,hz,rfl⟩:=Option.map_eq_some_iff.1 he;cases j with
   |succ j=>simp[fU]at hx
   |zero=>
    simp[fU]at hx;subst hx;exact⟨.int .u32 (z:Int),by rw[Nat.mul_one,Nat.add_zero];exact hcell i z hz,rfl,cz.raw _ rfl⟩
  ·obtain⟨rfl,rfl,_⟩:=rZ ho;obtain⟨rfl,rfl,_⟩:=rZ ho';exact⟨rfl,rfl⟩
  ·obtain⟨rfl,rfl,_⟩:=rZ ho;rw[hr]at hb;injection hb with hb
   injection hb with hb _
   subst hb;exact⟨.inl hg,fun hX'=>absurd (hX _ hX') (by omega)⟩
  ·obtain⟨rfl,rfl,rfl⟩:=rZ ho;exact dH (dC _ _)
  exact⟨_,rfl,by simp[uh],.inr ⟨g,cap,cap,hr,by rw[hv];simp,hnc,fun _=>rfl⟩⟩⟩
theorem FB (l:List Nat) (h0:0<l.length) (hl:l.length<=1073741824):CallC Tryz.prog 162 [bA l] ⟨[⟨79,1,lc fU l⟩],.one (.sl 0 0 0 l.length)⟩:=by
 refine Ff h0 (by kernel_rfl) fun X w vs hX hvs ha=>?_
 obtain⟨v0,e0,r0⟩:=mB ha (j:=0) rfl;obtain⟨A,c,rfl,hc,hR⟩:=Ex r0;obtain rfl:vs= #[.slice A l.length c]:=by
  apply Array.ext_getElem?;intro j
  match j with
  |0=>exact e0
  |j+1=>rw[Array.getElem?_eq_none (by simp at hvs;omega)];rfl
 have hlen:(l.map fun n:Nat=>(n:Int)).length=l.length:=List.length_map _;have:=tB A c (l.map fun n:Nat=>(n:Int)) w hR (by rw[hlen];omega);rw[hlen]at this;exact this
section
theorem eF (c:Int) (F:Nat->Int): ∀k,cK (fun p=>c*F p) k=c*cK F k
 |0=>by simp[cK]
 |k+1=>by rw[cK,cK,eF c F k];grind
theorem vq (c:Int) (F:Nat->Int) (k:Nat):cK (fun p=>F p*c) k=cK F k*c:=by
 rw[Int.mul_comm,<- eF];exact aY k fun p _=>Int.mul_comm _ _
theorem qm (F:FF) (m:Nat): ∀n,cK (fun i=>cK (F i) m) n=cK (fun j=>cK (fun i=>F i j) n) m
 |0=>by simp only[cK];exact(fg m).symm
 |n+1=>by rw[cK,qm F m n,<- ki];rfl
theorem vp {F:Nat->Int} {B:Int}: ∀k,(∀p,p<k-> -B<=F p/\F p<=B)-> -((k:Int)*B)<=cK F k/\cK F k<=(k:Int)*B
 |0,_=>by simp[cK]
 |k+1,h=>by
  have ih:=vp k fun p hp=>h p (by omega)
  have h1:=h k (by omega);have e:(((k+1:Nat):Int))*B=(k:Int)*B+B:=by rw[Int.natCast_add,Int.add_mul];simp
  rw[cK,e];omega
def BF (n:Nat) (f:FF) (x y:Nat->Int):Int:=cK (fun i=>x i*cK (fun j=>f i j*y j) n) n
variable {n:Nat}
theorem ea {f f':FF} {x x' y y':Nat->Int} (hf: ∀i j,i<n->j<n->f i j=f' i j) (hx: ∀i,i<n->x i=x' i) (hy: ∀i,i<n->y i=y' i):BF n f x y=BF n f' x' y':=
 aY n fun i hi=>by rw[hx i hi,aY n fun j hj=>by rw[hf i j hi hj,hy j hj]]
theorem jR (f:FF) (x x' y:Nat->Int) (c:Int):BF n f (fun i=>x i+c*x' i) y=BF n f x y+c*BF n f x' y:=by
 unfold BF;rw[<- eF,<- ki];exact aY n fun i _=>by grind
theorem iw (f:FF) (x y y':Nat->Int) (c:Int):BF n f x (fun i=>y i+c*y' i)=BF n f x y+c*BF n f x y':=by
 unfold BF;rw[<- eF,<- ki];refine aY n fun i _=>?_
 rw[aY n (G:=fun j=>f i j*y j+c*(f i j*y' j)) (fun j _=>by grind),ki,eF];grind
theorem sc (f g:FF) (x y:Nat->Int) (a b:Int):BF n (fun i j=>a*f i j+b*g i j) x y=a*BF n f x y+b*BF n g x y:=by
 unfold BF;rw[<- eF,<- eF,<- ki];refine aY n fun i _=>?_
 rw[aY n (G:=fun j=>a*(f i j*y j)+b*(g i j*y j)) (fun j _=>by grind),ki,eF,eF];grind
theorem Dd (u v x y:Nat->Int):BF n (fun i j=>u i*v j) x y=cK (fun i=>x i*u i) n*cK (fun j=>v j*y j) n:=by
 unfold BF;rw[<- vq];refine aY n fun i _=>?_
 rw[aY n (G:=fun j=>u i*(v j*y j)) (fun j _=>by grind),eF];grind
theorem qA {f:FF} (hs:SymF f n) (x y:Nat->Int):BF n f x y=BF n f y x:=by
 unfold BF;rw[aY n (G:=fun i=>cK (fun j=>x i*f i j*y j) n) (fun i _=>by rw[<- eF];exact aY n fun j _=>by grind),
  aY n (F:=fun i=>y i*_) (G:=fun i=>cK (fun j=>x j*f j i*y i) n) (fun i hi=>by rw[<- eF];exact aY n fun j hj=>by rw[hs i hi j hj];grind)]
 exact qm _ _ _
theorem ot {f:FF} (hs:SymF f n) (hp: ∀k,k<n->0<dk f (k+1)) (x:Nat->Int): ∀m k,m+k=n->0<=BF n (bk f k) x x/\(BF n (bk f k) x x=0-> ∀i,k<=i->i<n->x i=0)
 |0,k,h=>by
  obtain rfl:k=n:=by omega
  refine⟨?_,fun _ i h1 h2=>by omega⟩;have:BF k (bk f k) x x=0:=by
   unfold BF;rw[aY k (G:=fun _=>0) (fun i hi=>by rw[aY k (G:=fun _=>0) (fun j _=>by rw[jT f hi,Int.zero_mul]),fg,Int.mul_zero]),fg]
  omega
 |m+1,k,h=>by
  obtain⟨h1,h2⟩:=ot hs hp x m (k+1) (by omega);have hne: ∀t,t<n->dk f (t+1)≠0:=fun t ht=>by have:=hp t ht;omega
  have hd:0<dk f k:=kq fun t ht=>hp t (by omega)
  have hd1:=hp k (by omega);have key:dk f k*BF n (bk f (k+1)) x x=dk f (k+1)*BF n (bk f k) x x-cK (fun j=>bk f k k j*x j) n*cK (fun j=>bk f k k j*x j) n:=by
   have e0:dk f k*BF n (bk f (k+1)) x x=BF n (fun i j=>dk f k*bk f (k+1) i j+0*bk f k i j) x x:=by rw[sc];omega
   rw[e0,ea (f':=fun i j=>dk f (k+1)*bk f k i j+(-1)*(bk f k k i*bk f k k j)) (fun i j hi hj=>by
    have:=sylv f k (fun t ht=>hne t (by omega)) i j;have e:=kp hs k (by omega) (fun t ht=>hne t (by omega)) i k hi (by omega);rw[e]at this;omega) (fun _ _=>rfl) (fun _ _=>rfl),sc,Dd,aY n (F:=fun i=>x i*bk f k k i) (G:=fun j=>bk f k k j*x j) (fun i _=>Int.mul_comm _ _)]
   omega
  have hsq:0<=cK (fun j=>bk f k k j*x j) n*cK (fun j=>bk f k k j*x j) n:=by
   rcases Int.le_total 0 (cK (fun j=>bk f k k j*x j) n)with h|h
   ·exact Int.mul_nonneg h h
   exact Int.mul_nonneg_of_nonpos_of_nonpos h h
  have hpr:=Int.mul_nonneg (Int.le_of_lt hd) h1;have hge:0<=dk f (k+1)*BF n (bk f k) x x:=by omega
  refine⟨?_,fun hz=>?_⟩
  ·rcases Int.lt_or_le (BF n (bk f k) x x) 0 with hl|hl
   ·have:=Int.mul_neg_of_pos_of_neg hd1 hl;omega
   exact hl
  rw[hz,Int.mul_zero]at key;have z1:dk f k*BF n (bk f (k+1)) x x=0:=by omega
  have z2:cK (fun j=>bk f k k j*x j) n*cK (fun j=>bk f k k j*x j) n=0:=by omega
  have z3:BF n (bk f (k+1)) x x=0:=by
   rcases Int.mul_eq_zero.1 z1 with h|h
   ·omega
   exact h
  have z4:cK (fun j=>bk f k k j*x j) n=0:=by
   rcases Int.mul_eq_zero.1 z2 with h|h<;>exact h
  have hx:=h2 z3;rw[iD (a:=k) (by omega) (fun p hpn hpk=>by
   by_cases hlt:p<k
   ·rw[xN hs hne (by omega) hlt (by omega),Int.zero_mul]
   rw[hx p (by omega) hpn,Int.mul_zero])]at z4
  rw[bY]at hd1;intro i hi hin;by_cases e:i=k
  ·subst e;rcases Int.mul_eq_zero.1 z4 with h|h
   ·omega
   exact h
  exact hx i (by omega) hin
theorem G3 {f:FF} (hr:RedR f n) (x:Nat->Int):0<=BF n f x x/\(BF n f x x=0↔ ∀i,i<n->x i=0):=by
 have h:=ot hr.1 hr.2.1 x n 0 rfl;have e:BF n (bk f 0) x x=BF n f x x:=ea (fun i j _ _=>dF f i j) (fun _ _=>rfl) (fun _ _=>rfl);rw[e]at h;refine⟨h.1,fun hz i hi=>h.2 hz i (by omega) hi,fun h0=>?_⟩;unfold BF;rw[aY n (G:=fun _=>0) (fun i hi=>by rw[h0 i hi,Int.zero_mul]),fg]
theorem schwarz {f:FF} (hr:RedR f n) (x y:Nat->Int):BF n f x y*BF n f x y<=BF n f x x*BF n f y y:=by
 have hs:=qA hr.1 x y;obtain⟨h1,h2⟩:=G3 hr y;obtain⟨q,hq⟩: ∃q,q=BF n f x y:=⟨_,rfl⟩;obtain⟨o,ho⟩: ∃o,o=BF n f y y:=⟨_,rfl⟩;obtain⟨N,hN⟩: ∃N,N=BF n f x x:=⟨_,rfl⟩;have hpos:=(G3 hr (fun i=>(0+o*x i)+(-q)*y i)).1;have e:BF n f (fun i=>(0+o*x i)+(-q)*y i) (fun i=>(0+o*x i)+(-q)*y i)=o*(o*N-q*q):=by
  have ez: ∀u,BF n f (fun _=>0) u=0:=fun u=>by
   unfold BF;rw[aY n (G:=fun _=>0) (fun i _=>Int.zero_mul _),fg]
  have ez': ∀u,BF n f u (fun _=>0)=0:=fun u=>by rw[qA hr.1,ez]
  rw[jR f (fun i=>0+o*x i) y,iw f (fun i=>0+o*x i) (fun i=>0+o*x i) y,iw f y (fun i=>0+o*x i) y,
   jR f (fun _=>0) x,jR f (fun _=>0) x,iw f x (fun _=>0) x,iw f y (fun _=>0) x,ez,ez,ez',ez',<- hs,<- hq,<- ho,<- hN]
  grind
 rw[e]at hpos;rw[<- hq,<- ho,<- hN];rcases Int.lt_or_le 0 o with h|h
 ·have:0<=o*N-q*q:=by
   rcases Int.lt_or_le (o*N-q*q) 0 with hl|hl
   ·have:=Int.mul_neg_of_pos_of_neg h hl;omega
   exact hl
  have:o*N=N*o:=Int.mul_comm _ _;omega
 have o0:o=0:=by omega
 have hy:=h2.1 (ho▸o0);have q0:q=0:=by
  rw[hq,hs];unfold BF;rw[aY n (G:=fun _=>0) (fun i hi=>by rw[hy i hi,Int.zero_mul]),fg]
 rw[o0,q0];omega
end
end Go.Proofs.YtfgeomlagfomgaaGreatDoor
