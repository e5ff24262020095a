/-
  Part 19 of a proof (walks and plain facts).
-/
import Derived.Test.YtfgeomlagfomgaaGreatDoorS17
import Derived.Lib.BitFns
set_option linter.all false
set_option maxRecDepth 100000
set_option maxHeartbeats 64000000
open Nat renaming reduceAdd → aa
open Nat renaming le_refl → ac
open List renaming replicate → ae
open Int renaming reduceToNat → am
open List renaming getElem?_append_right → ap
namespace Go.Proofs.YtfgeomlagfomgaaGreatDoor
open Go.RowKit
theorem vm {a s:Nat} (h:a*2^s<18446744073709551616) (hs:s<=64):IntKind.u64.wrap ((a:Int)*2^(min s IntKind.u64.bits))=((a*2^s:Nat):Int):=by
 rw[show min s IntKind.u64.bits=s from Nat.min_eq_left hs,IntKind.wrap_u64];have e:(a:Int)*2^s=((a*2^s:Nat):Int):=by simp
 rw[e];omega
theorem C3 {a s:Nat} (hs:s<=64):Int.fdiv (a:Int) (2^(min s IntKind.u64.bits))=((a/2^s:Nat):Int):=by
 rw[show min s IntKind.u64.bits=s from Nat.min_eq_left hs];have e:(2:Int)^s=((2^s:Nat):Int):=by simp
 rw[e,Int.fdiv_eq_ediv_of_nonneg _ (Int.natCast_nonneg _)]
 simp
theorem pz (m:List Nat) (s:Nat) (lm:Lmb m) (hs:s<32) (bm:m.length<=536870912):CallC Tryz.prog 179 [bF m,.raw (.int .i64 (s:Int))] ⟨[⟨79,1,lc fU (bV (m.length+1) (natV m*2^s))⟩],.one (.sl 0 0 0 (m.length+1))⟩:=by
 have hp:=Am hs;have ep:(m.length:Int)+1=((m.length+1:Nat):Int):=by omega
 refine aJ Tryz.func179 rfl (by kernel_rfl) ?_;rw[Tryz.ntmps179];refine aD fun _ K=>?_;simp only[kd,bF,aa,ae];apply K
 refine aD fun _ K=>?_;simp(disch:=omega) only[kd,aa,ep,aP,lJ];apply K
 refine aD fun _ K=>?_;simp only[kd];apply K
 refine aE (aD fun _ K=>?_);simp only[kd,aa];apply K;refine aT (G:=jD m.length) (fun g=>⟨(bF m::rN s::jk::jk::jk::.one (.sl 12 0 0 (m.length+1))::.raw (.int .u64 (u5 m s g.i:Nat))::j4 (jk::jk::bF m::rN m.length::rN g.i::j16 (j4 (j4 (jk::[]))))),Hm [(12,[⟨79,1,lc fU (bV g.i (natV m*2^s)++ae (m.length+1-g.i) 0)⟩])]⟩) (fun g=>m.length-g.i) ⟨0,by omega⟩ ?_ ?_
 ·refine aF ⟨?_,trivial⟩ ?_
  ·simp[bj,Hm,bV]
  simp[wk,u5,natV]
 rintro⟨i,hi⟩;simp only;have hcl:=OV lm s i;by_cases hm:i<m.length
 ·obtain⟨a,ha⟩:=getElem?_of_lt hm;have ha':=cn lm ha;obtain⟨k1,k2⟩:=MJ (s:=s) ha;have hlow:=OW (m:=m) (s:=s) (i:=i+1) (j:=i) (by omega) (by omega);rw[<- k1]at hlow;have hmul:a*2^s<=4294967295*2147483648:=Nat.mul_le_mul (by omega) hp.1;have e1:=vm (a:=a) (s:=s) (by omega) (by omega);have e2:=x6 (u5 m s i) (a*2^s) (by omega) (by omega);rw[si a (u5 m s i) s hcl]at e2;have e3:IntKind.u32.wrap ((a*2^s+u5 m s i:Nat):Int)=((natV m*2^s/4294967296^i%4294967296:Nat):Int):=by rw[sH,Nat.add_comm,hlow]
  have e4:Int.fdiv ((a*2^s+u5 m s i:Nat):Int) (2^(min 32 IntKind.u64.bits))=((u5 m s (i+1):Nat):Int):=by rw[GL,Nat.add_comm,k2]
  have hz:m.length+1-i=(m.length-i)+1:=by omega
  have hg:=q9 (bV i (natV m*2^s)) (m.length-i);have hset:=oY (bV i (natV m*2^s)) (m.length-i) (natV m*2^s/4294967296^i%4294967296);rw[bQ]at hg hset;rw[<- wL]at hset;rw[hz];obtain⟨c1,hc1⟩: ∃c1,c1=u5 m s (i+1):=⟨_,rfl⟩;obtain⟨P1,hP1⟩: ∃P1,P1=bV (i+1) (natV m*2^s):=⟨_,rfl⟩;rw[<- hc1]at e4;rw[<- hP1]at hset;clear k1 k2 hlow;generalize u5 m s i=c0 at*
  generalize natV m*2^s/4294967296^i%4294967296=dg at*
  generalize bV i (natV m*2^s)=P0 at*
  generalize hal:a*2^s=al at*
  refine aD fun _ K=>?_;simp(disch:=omega) only[kd,bF];apply K
  refine bC rfl ?_;refine aE (aK ?_);refine aD fun _ K=>?_;simp(disch:=omega) only[kd,aa,ha];apply K
  refine aD fun _ K=>?_;simp(disch:=omega) only[kd,aa,dn,e1,e2];apply K
  refine aD fun _ K=>?_;simp(disch:=omega) only[kd,aa,e3,hg,dH,hset];apply K
  refine aM fun _ K=>?_;simp only[kd,aa,Int.reduceLE,am,e4];apply K
  show bs _ _ _ _;refine aM fun _ K=>?_;simp(disch:=omega) only[kd,aP];apply K
  refine⟨⟨i+1,by omega⟩,by simp only;omega,aF ⟨?_,trivial⟩ ?_⟩
  ·show _=[(⟨_,_,lc fU (bV (i+1) (natV m*2^s)++ae (m.length+1-(i+1)) 0)⟩:OObj)];rw[show m.length+1-(i+1)=m.length-i by omega,<- hP1];rfl
  simp[wk,hc1]
 have hie:i=m.length:=by omega
 subst hie;have hc:u5 m s m.length=natV m*2^s/4294967296^m.length:=by unfold u5;rw[List.take_length]
 have hd:u5 m s m.length%4294967296=u5 m s m.length:=Nat.mod_eq_of_lt (by omega);have e3:IntKind.u32.wrap ((u5 m s m.length:Nat):Int)=((natV m*2^s/4294967296^m.length%4294967296:Nat):Int):=by rw[sH,hc]
 have hz:m.length+1-m.length=0+1:=by omega
 have hg:=q9 (bV m.length (natV m*2^s)) 0;have hset:=oY (bV m.length (natV m*2^s)) 0 (natV m*2^s/4294967296^m.length%4294967296);rw[bQ]at hg hset;rw[<- wL,List.replicate_zero,List.append_nil]at hset;rw[hz];clear hc hd;generalize bV (m.length+1) (natV m*2^s)=R at*
 generalize bV m.length (natV m*2^s)=P0 at*
 generalize natV m*2^s/4294967296^m.length%4294967296=dg at*
 generalize u5 m s m.length=c0 at*
 refine aD fun _ K=>?_;simp(disch:=omega) only[kd,bF];apply K
 refine bJ rfl ?_;show bs _ _ _ _;refine aD fun _ K=>?_;simp(disch:=omega) only[kd,aa,e3,hg,dH,hset];apply K
 refine aD fun _ K=>?_;simp only[kd];apply K
 refine aI ⟨.inr rfl,_,ca.refl _,?_⟩;refine⟨.one (.sl 12 0 0 (m.length+1)),12,?_,rfl,?_,rfl⟩
 ·simp(disch:=omega) only[kd,Tryz.results179]
 show _=[_];simp[renO,xP]
def Gh (l:List Nat) (b i:Nat):List Nat:=l.take i++bV (l.length-i) (natV (l.drop i)/b)
theorem My (l:List Nat) (b:Nat) {i:Nat} (h:i<=l.length):(Gh l b i).length=l.length:=by simp[Gh,bQ];omega
theorem rT (l:List Nat) (b:Nat) (ll:Lmb l) (hb:0<b) (hb':b<4294967296) (hl:0<l.length) (bl:l.length<=536870912):
  pb Tryz.prog 177 [.undef,.raw (.int .u32 (b:Int))] 0 0 l.length ⟨79,1,lc fU l⟩ ⟨79,1,lc fU (bV l.length (natV l/b))⟩ (.raw (.int .u32 ((natV l%b:Nat):Int))):=by
 refine po Tryz.func177 rfl (by kernel_rfl) (by simp) hl (by simp[lc]) (dD _ _) rfl (by simp[lc,bQ]) (dD _ _) rfl ?_;rw[Tryz.ntmps177];refine aX (by kernel_rfl) fun _ K=>?_;simp only[kd,aa,ae];apply K
 refine aX (by kernel_rfl) fun _ K=>?_;simp only[kd];apply K
 have e0:(l.length:Int)-1=(l.length:Int)-1:=rfl;refine bY (aX (by kernel_rfl) fun _ K=>?_);simp(disch:=omega) only[kd,aa,aP];apply K;refine f9 (G:=jD l.length) (fun g=>⟨(.one (.sl 0 0 0 l.length)::.raw (.int .u32 (b:Int))::jk::jk::jk::.raw (.int .u64 ((natV (l.drop g.i)%b:Nat):Int))::.raw (.int .i64 ((g.i:Int)-1))::j16 (j4 (j4 (j4 (jk::[]))))),Hm [(0,[⟨79,1,lc fU (Gh l b g.i)⟩])]⟩) (fun g=>g.i) ⟨l.length,by omega⟩ ?_ ?_
 ·refine aF ⟨?_,trivial⟩ ?_
  ·simp[Gh,bV,famH]
  simp[wk,natV]
 rintro⟨i,hi⟩;simp only;by_cases h0:0<i
 ·obtain⟨j,rfl⟩: ∃j,i=j+1:=⟨i-1,by omega⟩;obtain⟨a,ha⟩:=getElem?_of_lt (l:=l) (k:=j) (by omega);have ha':=cn ll ha;have ej:((j+1:Nat):Int)-1=(j:Int):=by omega
  obtain⟨q1,q2⟩:=Mz (b:=b) rfl (show j<l.length by omega) ha ha' hb;have hlen:=My l b hi;have hget:(Gh l b (j+1))[j]?=some a:=by
   unfold Gh;rw[List.getElem?_append_left (by simp;omega),List.getElem?_take,if_pos (by omega),ha]
  change (Gh l b (j+1)).set j _=Gh l b j at q1
  have hr:=Nat.mod_lt (natV (l.drop (j+1))) hb;generalize natV (l.drop (j+1))%b=r at*
  obtain⟨r',hr'⟩: ∃r',r'=natV (l.drop j)%b:=⟨_,rfl⟩;rw[<- hr']at q2;have hcast:((natV (l.drop j):Nat):Int)%(b:Int)=(r':Int):=by rw[hr'];simp
  have e1:=vm (a:=r) (s:=32) (by omega) (by omega);have e2:=x6 (r*2^32) a (by omega) (by omega);rw[qQ r a 32 (by omega),show r*2^32+a=r*4294967296+a from rfl]at e2;have e3:Int.tdiv ((r*4294967296+a:Nat):Int) (b:Int)=(((r*4294967296+a)/b:Nat):Int):=(Int.ofNat_tdiv _ _).symm;have e4:Int.tmod ((r*4294967296+a:Nat):Int) (b:Int)=(r':Int):=by rw[<- q2];exact(Int.ofNat_tmod _ _).symm
  have hq:(r*4294967296+a)/b<4294967296:=by
   rw[Nat.div_lt_iff_lt_mul hb];have:(r+1)*4294967296<=b*4294967296:=Nat.mul_le_mul_right _ (by omega);omega
  generalize(r*4294967296+a)/b=qd at*
  have e5:IntKind.u64.wrap (qd:Int)=(qd:Int):=by rw[IntKind.wrap_u64];omega
  have e6:IntKind.u32.wrap (qd:Int)=(qd:Int):=by rw[IntKind.wrap_u32];omega
  generalize Gh l b (j+1)=S at*
  obtain⟨S',hS'⟩: ∃S',S'=Gh l b j:=⟨_,rfl⟩;rw[<- hS']at q1;refine bY (aX (by kernel_rfl) fun _ K=>?_);simp(disch:=omega) only[kd,ej];apply K;refine ji rfl (fC ?_);refine bY (eh ?_);refine aX (by kernel_rfl) fun _ K=>?_;simp(disch:=omega) only[kd,aa,Int.reduceLE,am,e1,hget,dn,e2];apply K
  refine aX (by kernel_rfl) fun _ K=>?_;simp(disch:=omega) only[kd,aa,dn,e3,e5,e6,hget,dH,q1];apply K
  refine dz (by kernel_rfl) fun _ K=>?_;simp(disch:=omega) only[kd,aa,dn,e4];apply K
  show fc _ _ _ _ _;refine dz (by kernel_rfl) fun _ K=>?_;simp(disch:=omega) only[kd,aa,aP];apply K
  refine⟨⟨j,by omega⟩,by simp only;omega,aF ⟨?_,trivial⟩ ?_⟩
  ·show _=[(⟨_,_,lc fU (Gh l b j)⟩:OObj)];rw[<- hS'];rfl
  simp[wk,hcast]
 have hi0:i=0:=by omega
 subst hi0;have hr:natV l%b<4294967296:=Nat.lt_trans (Nat.mod_lt _ hb) hb';have hS:Gh l b 0=bV l.length (natV l/b):=by simp[Gh]
 rw[hS,List.drop_zero];generalize natV l%b=r at*
 generalize bV l.length (natV l/b)=S at*
 have e6:IntKind.u32.wrap (r:Int)=(r:Int):=by rw[IntKind.wrap_u32];omega
 refine bY (aX (by kernel_rfl) fun _ K=>?_);simp(disch:=omega) only[kd];apply K;refine ia rfl (f7 ?_);show fc _ _ _ _ _;refine aX (by kernel_rfl) fun _ K=>?_;simp only[kd,aa,e6];apply K
 refine nj ⟨.inr rfl,_,ca.refl _,rfl,lG _,?_⟩;simp(disch:=omega) only[kd,Tryz.results177]
def AL (l:List Nat) (s i:Nat):List Nat:=(bV l.length (natV l/2^s)).take i++l.drop i
theorem MK (l:List Nat) (s:Nat) {i:Nat} (h:i<=l.length):(AL l s i).length=l.length:=by simp[AL,bQ];omega
theorem Et {l:List Nat} {s i j a:Nat} (hi:i<=j) (h:l[j]?=some a):(AL l s i)[j]?=some a:=by
 have hj:=(List.getElem?_eq_some_iff.1 h).1;unfold AL;have e:((bV l.length (natV l/2^s)).take i).length=i:=by simp[bQ];omega
 rw[ap (by omega),e,List.getElem?_drop,show i+(j-i)=j by omega,h]
theorem vz (l:List Nat) (s:Nat) (ll:Lmb l) (hs:s<32) (hl:0<l.length) (bl:l.length<=536870912):
  pb Tryz.prog 181 [.undef,.raw (.int .i64 (s:Int))] 0 0 l.length ⟨79,1,lc fU l⟩ ⟨79,1,lc fU (bV l.length (natV l/2^s))⟩ (.tup []):=by
 refine po Tryz.func181 rfl (by kernel_rfl) (by simp) hl (by simp[lc]) (dD _ _) rfl (by simp[lc,bQ]) (dD _ _) rfl ?_;rw[Tryz.ntmps181];refine aX (by kernel_rfl) fun _ K=>?_;simp only[kd,aa,ae];apply K
 refine f9 (G:=jD l.length) (fun g=>⟨(.one (.sl 0 0 0 l.length)::rN s::j4 (jk::rN l.length::rN g.i::j16 (j4 (j4 (j4 (jk::[])))))),Hm [(0,[⟨79,1,lc fU (AL l s g.i)⟩])]⟩) (fun g=>l.length-g.i) ⟨0,by omega⟩ ?_ ?_
 ·refine aF ⟨?_,trivial⟩ ?_
  ·simp[AL,famH]
  simp[wk]
 rintro⟨i,hi⟩;simp only;have hlen:=MK l s hi;by_cases hm:i<l.length
 ·obtain⟨a,ha⟩:=getElem?_of_lt hm;have ha':=cn ll ha;have hget:=Et (s:=s) (ac i) ha;have hga:l.getD i 0=a:=by rw[List.getD_eq_getElem?_getD,ha];rfl
  have ei:(i:Int)+1=((i+1:Nat):Int):=by omega
  obtain⟨S',hS'⟩: ∃S',S'=AL l s (i+1):=⟨_,rfl⟩;by_cases hm2:i+1<l.length
  ·obtain⟨b,hb⟩:=getElem?_of_lt hm2;have hb':=cn ll hb;have hget2:=Et (s:=s) (show i<=i+1 by omega) hb;have hgb:l.getD (i+1) 0=b:=by rw[List.getD_eq_getElem?_getD,hb];rfl
   have hset:=Eu (v:=(b*4294967296+a)/2^s%4294967296) ll (show s<=32 by omega) rfl hm (by rw[hga,hgb,Nat.add_comm,Nat.mul_comm])
   change (AL l s i).set i _=AL l s (i+1)at hset
   rw[<- hS']at hset;have e1:=vm (a:=b) (s:=32) (by omega) (by omega);have e2:=x6 a (b*2^32) (by omega) (by omega);rw[si b a 32 (by omega),show b*2^32+a=b*4294967296+a from rfl]at e2;have e3:=C3 (a:=b*4294967296+a) (s:=s) (by omega);have e4:=sH ((b*4294967296+a)/2^s);generalize(b*4294967296+a)/2^s=qd at*
   generalize AL l s i=S at*
   refine aX (by kernel_rfl) fun _ K=>?_;simp(disch:=omega) only[kd];apply K
   refine qw rfl ?_;refine bY (eh ?_);refine aX (by kernel_rfl) fun _ K=>?_;simp only[kd];apply K
   refine aX (by kernel_rfl) fun _ K=>?_;simp(disch:=omega) only[kd,aa,hget,dn];apply K
   refine bY (aX (by kernel_rfl) fun _ K=>?_);simp(disch:=omega) only[kd,aa,ei,aP];apply K;refine ji rfl ?_;refine dz (by kernel_rfl) fun _ K=>?_;simp(disch:=omega) only[kd,aa,ei,aP,hget2,dn,Int.reduceLE,am,e1,e2];apply K
   show fc _ _ _ _ _;refine dz (by kernel_rfl) fun _ K=>?_;simp(disch:=omega) only[kd,aa,e3,e4,hget,dH,hset];apply K
   show fc _ _ _ _ _;refine dz (by kernel_rfl) fun _ K=>?_;simp(disch:=omega) only[kd,aP];apply K
   refine⟨⟨i+1,by omega⟩,by simp only;omega,aF ⟨?_,trivial⟩ ?_⟩
   ·show _=[(⟨_,_,lc fU (AL l s (i+1))⟩:OObj)];rw[<- hS'];rfl
   simp[wk]
  have hgb:l.getD (i+1) 0=0:=by rw[List.getD_eq_getElem?_getD,List.getElem?_eq_none (by omega)];rfl
  have hset:=Eu (v:=a/2^s%4294967296) ll (show s<=32 by omega) rfl hm (by rw[hga,hgb];rfl)
  change (AL l s i).set i _=AL l s (i+1)at hset
  rw[<- hS']at hset;have e3:=C3 (a:=a) (s:=s) (by omega);have e4:=sH (a/2^s);generalize a/2^s=qd at*
  generalize AL l s i=S at*
  refine aX (by kernel_rfl) fun _ K=>?_;simp(disch:=omega) only[kd];apply K
  refine qw rfl ?_;refine bY (eh ?_);refine aX (by kernel_rfl) fun _ K=>?_;simp only[kd];apply K
  refine aX (by kernel_rfl) fun _ K=>?_;simp(disch:=omega) only[kd,aa,hget,dn];apply K
  refine bY (aX (by kernel_rfl) fun _ K=>?_);simp(disch:=omega) only[kd,aa,ei,aP];apply K;refine ia rfl (fC ?_);show fc _ _ _ _ _;refine dz (by kernel_rfl) fun _ K=>?_;simp(disch:=omega) only[kd,aa,e3,e4,hget,dH,hset];apply K
  show fc _ _ _ _ _;refine dz (by kernel_rfl) fun _ K=>?_;simp(disch:=omega) only[kd,aP];apply K
  refine⟨⟨i+1,by omega⟩,by simp only;omega,aF ⟨?_,trivial⟩ ?_⟩
  ·show _=[(⟨_,_,lc fU (AL l s (i+1))⟩:OObj)];rw[<- hS'];rfl
  simp[wk]
 have hie:i=l.length:=by omega
 subst hie;have hS:AL l s l.length=bV l.length (natV l/2^s):=by
  unfold AL;rw[List.drop_length,List.append_nil,List.take_of_length_le (by rw[bQ];exact ac _)]
 rw[hS];generalize bV l.length (natV l/2^s)=S at*
 refine aX (by kernel_rfl) fun _ K=>?_;simp(disch:=omega) only[kd];apply K
 refine sX rfl ?_;refine⟨.inl rfl,_,ca.refl _,rfl,lG _,?_⟩;simp(disch:=omega) only[kd,Tryz.results181]
section
theorem FO {l:List Nat} {n x y:Nat} (hn:l.length=n+2) (hx:l[n+1]?=some x) (hy:l[n]?=some y):natV l=(x*4294967296+y)*4294967296^n+natV (l.take n):=by
 have h1:=bM hx;have h2:=bM hy;rw[List.take_of_length_le (by omega)]at h1;rw[h1,h2,Nat.pow_succ];grind
theorem FP {l:List Nat} {n x y z:Nat} (hn:l.length=n+3) (hx:l[n+2]?=some x) (hy:l[n+1]?=some y) (hz:l[n]?=some z):natV l=((x*4294967296+y)*4294967296+z)*4294967296^n+natV (l.take n):=by
 have h1:=bM hx;have h2:=bM hy;have h3:=bM hz;rw[List.take_of_length_le (by omega)]at h1;rw[h1,h2,h3,Nat.pow_succ,Nat.pow_succ];grind
structure vq (u v:List Nat) (n v1 v2 u2 u1 u0:Nat):Prop where
 lu:Lmb u
 lv:Lmb v
 nu:u.length=n+3
 nv:v.length=n+2
 hv1:v[n+1]?=some v1
 hv2:v[n]?=some v2
 hu2:u[n+2]?=some u2
 hu1:u[n+1]?=some u1
 hu0:u[n]?=some u0
 top:2147483648<=v1
 lt:natV u<natV v*4294967296
section
variable {u v:List Nat} {n v1 v2 u2 u1 u0:Nat} (h:vq u v n v1 v2 u2 u1 u0)
include h
theorem vq.vpos:0<natV v:=by
 have:=h.lt;by_cases hv:natV v=0
 ·rw[hv]at this;omega
 omega
theorem vq.bv1:v1<4294967296:=cn h.lv h.hv1
theorem vq.bv2:v2<4294967296:=cn h.lv h.hv2
theorem vq.bu2:u2<4294967296:=cn h.lu h.hu2
theorem vq.bu1:u1<4294967296:=cn h.lu h.hu1
theorem vq.bu0:u0<4294967296:=cn h.lu h.hu0
theorem vq.eV:natV v=(v1*4294967296+v2)*4294967296^n+natV (v.take n):=FO h.nv h.hv1 h.hv2
theorem vq.eU:natV u=((u2*4294967296+u1)*4294967296+u0)*4294967296^n+natV (u.take n):=FP h.nu h.hu2 h.hu1 h.hu0
theorem vq.vl:natV (v.take n)<4294967296^n:=ff h.lv n
theorem vq.ul:natV (u.take n)<4294967296^n:=ff h.lu n
theorem vq.q_lt:natV u/natV v<4294967296:=by
 rw[Nat.div_lt_iff_lt_mul h.vpos,Nat.mul_comm];exact h.lt
theorem vq.u2_le : u2 <= v1 := by
  have e1 := h.eV;have e2 := h.eU;have h1 := h.lt;have h2 := h.vl;have h3 := h.bv2;have hL : 0 < 4294967296 ^ n := Nat.pow_pos (by omega);generalize 4294967296 ^ n = L at *
  by_cases hc : u2 <= v1
  · exact hc
  · exfalso
    have h4 : (v1 + 1) * 4294967296 * 4294967296 * L <= natV u := by
      rw [e2];have : (v1 + 1) * 4294967296 * 4294967296 * L <= ((u2 * 4294967296 + u1) * 4294967296 + u0) * L := Nat.mul_le_mul_right _ (Nat.le_trans (Nat.mul_le_mul_right _ (Nat.le_trans (Nat.mul_le_mul_right _ (show v1 + 1 <= u2 by omega)) (Nat.le_add_right _ _))) (Nat.le_add_right _ _));exact Nat.le_trans this (Nat.le_add_right _ _)
    have h5 : natV v * 4294967296 <= (v1 + 1) * 4294967296 * 4294967296 * L := by
      have h6 : natV v <= (v1 + 1) * 4294967296 * L := by
        rw [e1];have : (v1 * 4294967296 + v2) * L + L <= (v1 + 1) * 4294967296 * L := by
          have := Nat.mul_le_mul_right L (show v1 * 4294967296 + v2 + 1 <= (v1 + 1) * 4294967296 by omega);rw [Nat.add_mul (v1 * 4294967296 + v2) 1 L, Nat.one_mul] at this;exact this
        omega
      calc natV v * 4294967296 <= (v1 + 1) * 4294967296 * L * 4294967296 := Nat.mul_le_mul_right _ h6
        _ = _ := by grind
    omega
structure Py (u v:List Nat) (v1 high:Nat) where
 g:Nat
 r:Nat
 eq:g*v1+r=high
 ge:natV u/natV v<=g
 le:g<=4294967297
 hr:r<4294967296
omit h in
theorem Fe {a b c:Nat} (hb:0<b) (h:a<(c+1)*b):a/b<=c:=by
 have:=(Nat.div_lt_iff_lt_mul hb).2 h;omega
theorem vq.first: ∃k:Py u v v1 (u2*4294967296+u1),k.g=(u2*4294967296+u1)/v1/\k.r=(u2*4294967296+u1)%v1:=by
 have ht:=h.top;have hb1:=h.bv1;have hm:=Nat.mod_lt (u2*4294967296+u1) (show 0<v1 by omega);have hd:=Nat.div_add_mod (u2*4294967296+u1) v1;have hle:=h.u2_le;have hu1:=h.bu1;have hL:0<4294967296^n:=Nat.pow_pos (by omega);refine⟨⟨(u2*4294967296+u1)/v1,(u2*4294967296+u1)%v1,by rw[Nat.mul_comm];exact hd,?_,?_,by omega⟩,rfl,rfl⟩
 ·rw[Nat.le_div_iff_mul_le (by omega)];have e1:=h.eV;have e2:=h.eU;have h1:=h.ul;have h2:=h.bu0;refine PT (U:=natV u) (V:=natV v) (L:=4294967296^n) ?_ ?_ (Nat.div_mul_le_self _ _) hL
  ·rw[e1];have:v1*4294967296*4294967296^n<=(v1*4294967296+v2)*4294967296^n:=Nat.mul_le_mul_right _ (by omega);omega
  rw[e2];have:((u2*4294967296+u1)*4294967296+u0)*4294967296^n+4294967296^n<=(u2*4294967296+u1+1)*4294967296*4294967296^n:=by
   have:=Nat.mul_le_mul_right (4294967296^n) (show(u2*4294967296+u1)*4294967296+u0+1<=(u2*4294967296+u1+1)*4294967296 by omega);rw[Nat.add_mul ((u2*4294967296+u1)*4294967296+u0) 1,Nat.one_mul]at this;exact this
  omega
 refine Fe (by omega) ?_;have:u2*4294967296<=v1*4294967296:=Nat.mul_le_mul_right _ hle;have e:(4294967297+1)*v1=v1*4294967296+2*v1:=by omega
 omega
theorem vq.down (k:Py u v v1 (u2*4294967296+u1)) (hc:4294967296<=k.g\/k.r*4294967296+u0<k.g*v2):natV u/natV v<k.g:=by
 rcases hc with hc|hc
 ·have:=h.q_lt;omega
 have e1:=h.eV;have e2:=h.eU;have h1:=h.ul;refine PS (U:=natV u) (V:=natV v) (L:=4294967296^n) (high:=u2*4294967296+u1) ?_ ?_ (Nat.div_mul_le_self _ _) k.eq hc
 ·rw[e1];omega
 rw[e2,Nat.add_mul ((u2*4294967296+u1)*4294967296+u0) 1,Nat.one_mul];omega
theorem vq.near {g r:Nat} (heq:g*v1+r=u2*4294967296+u1) (hB:g<=4294967296) (hc:g*v2<=r*4294967296+u0):g<=natV u/natV v+1:=by
 have e1:=h.eV;have e2:=h.eU;have ht:=h.top;refine LJ (U:=natV u) (t3:=(u2*4294967296+u1)*4294967296+u0) e1 h.vl ?_ ?_ ?_ hB (by omega)
 ·rw[e2];omega
 ·have:=Nat.lt_div_mul_add (a:=natV u) h.vpos;rw[Nat.add_mul,Nat.one_mul];omega
 rw[<- heq];have e:g*(v1*4294967296+v2)=g*v1*4294967296+g*v2:=by grind
 have e':(g*v1+r)*4294967296=g*v1*4294967296+r*4294967296:=by grind
 omega
theorem vq.vlt:natV v<=4294967296^(n+2):=Nat.le_of_lt (by have:=fJ h.lv;rw[h.nv]at this;exact this)
theorem vq.right {g:Nat} (m:KO u v g) (hi:m.i=n+2) (hge:natV u/natV v<=g) (hno:m.c+m.b<=u2):g=natV u/natV v/\m.us++[u2-(m.c+m.b)]=bV (n+3) (natV u%natV v):=by
 have hv:=m.val;rw[hi,List.take_of_length_le (by rw[h.nv];exact ac _)]at hv;have hU:=bM h.hu2;rw[List.take_of_length_le (by rw[h.nu];exact ac _)]at hU;have hml:m.us.length=n+2:=by rw[m.len,hi]
 have e:natV (m.us++[u2-(m.c+m.b)])+g*natV v=natV u:=by
  rw[nI,hml,hU];have:(u2-(m.c+m.b))*4294967296^(n+2)+(m.c+m.b)*4294967296^(n+2)=u2*4294967296^(n+2):=by
   rw[<- Nat.add_mul,Nat.sub_add_cancel hno]
  omega
 obtain⟨q1,q2⟩:=IA rfl hge e h.vpos;refine⟨q1,zB (mK m.lmb ?_) (by simp[hml]) q2⟩;have:=h.bu2;omega
theorem vq.left {g t:Nat} (m:KO u v g) (hi:m.i=n+2) (hle:g<=natV u/natV v+1) (hyes:u2<m.c+m.b) (ht:t=u2+4294967296-(m.c+m.b)) (a:KU (m.us++[t]) v) (hai:a.i=n+2):
  g=natV u/natV v+1/\a.us++[(t+a.c)%4294967296]=bV (n+3) (natV u%natV v):=by
 have hv:=m.val;rw[hi,List.take_of_length_le (by rw[h.nv];exact ac _)]at hv;have hU:=bM h.hu2;rw[List.take_of_length_le (by rw[h.nu];exact ac _)]at hU;have hml:m.us.length=n+2:=by rw[m.len,hi]
 have hbu:=h.bu2;have hmc:=m.hc;have hmb:=m.hb;have hav:=a.val;have e0:(m.us++[t]).take (n+2)=m.us:=by rw[List.take_append_of_le_length (by omega),List.take_of_length_le (by omega)]
 rw[hai,e0,List.take_of_length_le (by rw[h.nv];exact ac _)]at hav;have hW:=fJ a.lmb;rw[a.len,hai]at hW;have e:natV m.us+t*4294967296^(n+2)+g*natV v=natV u+4294967296*4294967296^(n+2):=by
  rw[hU];have:t*4294967296^(n+2)+(m.c+m.b)*4294967296^(n+2)=(u2+4294967296)*4294967296^(n+2):=by
   rw[<- Nat.add_mul,ht,Nat.sub_add_cancel (by omega)]
  rw[Nat.add_mul u2]at this;omega
 have hlt:natV u<g*natV v:=by
  have h1:=fJ m.lmb;rw[hml]at h1;have h2:(u2+1)*4294967296^(n+2)<=(m.c+m.b)*4294967296^(n+2):=Nat.mul_le_mul_right _ (by omega);rw[Nat.add_mul u2 1,Nat.one_mul]at h2;omega
 obtain⟨q1,q2,q3⟩:=LI (T:=natV m.us) (t:=t) (c:=a.c) (W:=natV a.us) (Bn:=4294967296^(n+2)) rfl hle e hlt h.vpos h.vlt hW rfl hav a.hc (by omega);refine⟨q1,zB (mK a.lmb (Nat.mod_lt _ (by omega))) (by simp[a.len,hai]) ?_⟩;rw[nI,q2,q3];simp
end
end
theorem lV {pre u post:List Nat} {off i x:Nat} (hp:pre.length=off) (h:u[i]?=some x):(pre++(u++post))[off+i]?=some x:=by
 have hi:=(List.getElem?_eq_some_iff.1 h).1;rw[ap (by omega),hp,Nat.add_sub_cancel_left,List.getElem?_append_left hi,h]
theorem sA {pre u post:List Nat} {off i:Nat} (v:Nat) (hp:pre.length=off) (hi:i<u.length):(pre++(u++post)).set (off+i) v=pre++(u.set i v++post):=by
 rw[List.set_append_right _ _ (by omega),hp,Nat.add_sub_cancel_left,List.set_append_left _ _ hi]
theorem sB {us u:List Nat} {i:Nat} (v:Nat) (hus:us.length=i) (hi:i<u.length):(us++u.drop i).set i v=(us++[v])++u.drop (i+1):=by
 have hd:u.drop i=u[i]::u.drop (i+1):=List.drop_eq_getElem_cons hi;rw[hd,List.set_append_right _ _ (by omega),hus,Nat.sub_self,List.set_cons_zero,List.append_assoc];rfl
theorem yj {us u:List Nat} {i x:Nat} (hus:us.length=i) (hx:u[i]?=some x):(us++u.drop i)[i]?=some x:=by
 rw[ap (by omega),hus,Nat.sub_self,List.getElem?_drop,Nat.add_zero,hx]
theorem yl {us u:List Nat} {i:Nat} (hus:us.length=i) (hi:i<=u.length):(us++u.drop i).length=u.length:=by
 rw[List.length_append,hus,List.length_drop];omega
theorem G8 {P:Program} {k:Nat} {c z:Code} {Q:Exit->AS->Prop} {s:AS} (S:Nat->AS) (p:Nat->Prop) (h1:fc P k c (me (fun s'=> ∃g,p g/\ca s' (S g)) Q) s) (h2: ∀g,p g->fc P k z Q (S g)):fc P k c (me (fc P k z Q) Q) s:=h1.mono fun e s' h=>by
 cases e with
 |normal=>obtain⟨g,hp,hw⟩:=h;exact(h2 g hp).weak hw
 |_=>exact h
theorem QU (y lo b:Nat) (hy:y<4294967296) (hlo:lo<4294967296) (hb:b<=1):IntKind.u32.wrap (IntKind.u64.wrap (IntKind.u64.wrap ((y:Int)-(lo:Int))-(b:Int)))=(((y+8589934592-(lo+b))%4294967296:Nat):Int)/\
  Int.fdiv (IntKind.u64.wrap (IntKind.u64.wrap ((y:Int)-(lo:Int))-(b:Int))) (2^(min 63 IntKind.u64.bits))=(((if y<lo+b then 1 else 0):Nat):Int):=by
 constructor
 ·rw[IntKind.wrap_u32,IntKind.wrap_u64,IntKind.wrap_u64];omega
 rw[IntKind.wrap_u64,IntKind.wrap_u64];show Int.fdiv _ 9223372036854775808=_;rw[Int.fdiv_eq_ediv_of_nonneg _ (by omega)];split<;>omega
theorem vy (pre u post v:List Nat) (off n v1 v2 u2 u1 u0:Nat) (hp:pre.length=off) (H:vq u v n v1 v2 u2 u1 u0) (bR:(pre++(u++post)).length<=536870912):
  pb Tryz.prog 180 [.undef,bF v] 0 off (n+3) ⟨79,1,lc fU (pre++(u++post))⟩ ⟨79,1,lc fU (pre++(bV (n+3) (natV u%natV v)++post))⟩ (.raw (.int .u32 ((natV u/natV v:Nat):Int))):=by
 have nu:=H.nu;have nv:=H.nv;have hv1:=H.hv1;have hv2:=H.hv2;have bv1:=H.bv1;have bv2:=H.bv2;have bu2:=H.bu2;have bu1:=H.bu1;have bu0:=H.bu0;have top:=H.top;have hqlt:=H.q_lt;have hRl:(pre++(u++post)).length=off+(n+3)+post.length:=by simp[hp,nu];omega
 have gu2:=lV (post:=post) hp H.hu2;have gu1:=lV (post:=post) hp H.hu1;have gu0:=lV (post:=post) hp H.hu0;refine po Tryz.func180 rfl (by kernel_rfl) (by simp) (by omega) (by simp[lc]at hRl⊢;omega) (dD _ _) rfl (by simp[lc,bQ,nu]) (dD _ _) rfl ?_;rw[Tryz.ntmps180];have e2:((n+2:Nat):Int)-1=((n+1:Nat):Int):=by omega
 have e3:((n+2:Nat):Int)-2=((n:Nat):Int):=by omega
 refine aX (by kernel_rfl) fun _ K=>?_;simp only[kd,bF,aa,ae];apply K
 refine aX (by kernel_rfl) fun _ K=>?_;simp only[kd,aa,nv];apply K
 have a1:=vm (a:=u2) (s:=32) (by omega) (by omega);have a2:=x6 (u2*2^32) u1 (by omega) (by omega);rw[qQ u2 u1 32 (by omega),show u2*2^32+u1=u2*4294967296+u1 from rfl]at a2;obtain⟨high,hhigh⟩: ∃high,high=u2*4294967296+u1:=⟨_,rfl⟩;rw[<- hhigh]at a2;obtain⟨k0,hk1,hk2⟩: ∃k:Py u v v1 high,k.g=high/v1/\k.r=high%v1:=by rw[hhigh];exact H.first
 have hk3:=k0.le;have a3:Int.tdiv (high:Int) (v1:Int)=(k0.g:Int):=by rw[hk1];exact(Int.ofNat_tdiv _ _).symm
 have a4:Int.tmod (high:Int) (v1:Int)=(k0.r:Int):=by rw[hk2];exact(Int.ofNat_tmod _ _).symm
 generalize hR:pre++(u++post)=R at*
 refine gA aZ (by kernel_rfl) (by kernel_rfl) fun _ K=>?_;simp(disch:=omega) only[kd,aa,famH,gu2,dn,Int.reduceLE,am,a1,e2,aP,gu1,a2];apply K
 refine gA aZ (by kernel_rfl) (by kernel_rfl) fun _ K=>?_;simp(disch:=omega) only[kd,aa,e2,aP,hv1,dn,a3,a4];apply K
 refine bY (G8 (fun g=>⟨(.one (.sl 0 0 off (n+3))::bF v::jk::jk::jk::.raw (.int .i64 ((n+2:Nat):Int))::jk::.raw (.int .u64 (g:Int))::j16 (j16 (j16 (j16 (j16 (j16 (j16 (j16 (j16 (j16 (jk::jk::jk::[]))))))))))),Hm [(0,[⟨79,1,lc fU R⟩])]⟩) (fun g=>natV u/natV v<=g/\g<=natV u/natV v+1/\g<=4294967296) ?_ ?_)
 ·have H2:=H;subst hhigh;refine f9 (G:=Py u v v1 (u2*4294967296+u1)) (fun k=>⟨(.one (.sl 0 0 off (n+3))::bF v::jk::jk::jk::.raw (.int .i64 ((n+2:Nat):Int))::jk::.raw (.int .u64 (k.g:Int))::.raw (.int .u64 (k.r:Int))::j16 (j16 (j16 (j16 (j16 (j16 (j16 (j16 (j16 (j16 (jk::jk::[]))))))))))),Hm [(0,[⟨79,1,lc fU R⟩])]⟩) (fun k=>k.g) k0 ?_ ?_
  ·refine aF ⟨rfl,trivial⟩ ?_;simp[wk]
  intro k;have kg:=k.le;have kr:=k.hr;have keq:=k.eq;have kge:=k.ge;have e5:=GL k.g
  -- the guess goes down
  have down:(4294967296<=k.g\/k.r*4294967296+u0<k.g*v2)->natV u/natV v<k.g:=H2.down k;have next:natV u/natV v<k.g->k.r+v1<4294967296-> ∃k':Py u v v1 (u2*4294967296+u1),k'.g=k.g-1/\k'.r=k.r+v1:=fun h1 h2=>by
   refine⟨⟨k.g-1,k.r+v1,?_,by omega,by omega,h2⟩,rfl,rfl⟩;refine Eq.trans ?_ keq;have:k.g*v1=(k.g-1)*v1+v1:=by
    obtain⟨m,hm⟩: ∃m,k.g=m+1:=⟨k.g-1,(Nat.succ_pred_eq_of_pos (Nat.lt_of_le_of_lt (Nat.zero_le _) h1)).symm⟩;rw[hm,Nat.add_sub_cancel,Nat.add_mul,Nat.one_mul]
   omega
  have stop:natV u/natV v<k.g->4294967296<=k.r+v1->natV u/natV v<=k.g-1/\k.g-1<=natV u/natV v+1/\k.g-1<=4294967296:=fun h1 h2=>by
   refine⟨by omega,?_,by omega⟩;refine H2.near (r:=k.r+v1) ?_ (by omega) ?_
   ·refine Eq.trans ?_ keq;have:k.g*v1=(k.g-1)*v1+v1:=by
     obtain⟨m,hm⟩: ∃m,k.g=m+1:=⟨k.g-1,(Nat.succ_pred_eq_of_pos (Nat.lt_of_le_of_lt (Nat.zero_le _) h1)).symm⟩;rw[hm,Nat.add_sub_cancel,Nat.add_mul,Nat.one_mul]
    omega
   have h3:(k.g-1)*v2<=4294967296*4294967295:=Nat.mul_le_mul (by omega) (by omega);have h4:4294967296*4294967296<=(k.r+v1)*4294967296:=Nat.mul_le_mul_right _ h2;omega
  have e7:(k.g:Int)-1=((k.g-1:Nat):Int)\/k.g=0:=by omega
  have e8:(k.r:Int)+(v1:Int)=((k.r+v1:Nat):Int):=by omega
  have e9:=GL (k.r+v1);by_cases hbig:4294967296<=k.g
  ·have hd:=down (.inl hbig)
   replace e7:=e7.resolve_right (by omega)
   refine bY (gA aZ (by kernel_rfl) (by kernel_rfl) fun _ K=>?_);simp(disch:=omega) only[kd,aa,bF,Int.reduceLE,am,e5,reduceCtorEq];apply K;refine ji rfl (fC ?_);refine eh ?_;refine aX (by kernel_rfl) fun _ K=>?_;simp(disch:=omega) only[kd,aa,e7,dn];apply K
   refine aX (by kernel_rfl) fun _ K=>?_;simp(disch:=omega) only[kd,aa,e2,aP,hv1,dn,e8];apply K
   by_cases hover:4294967296<=k.r+v1
   ·refine aX (by kernel_rfl) fun _ K=>?_;simp(disch:=omega) only[kd,aa,Int.reduceLE,am,e9];apply K
    refine ji rfl (f7 ?_);refine⟨k.g-1,stop hd hover,aF ⟨rfl,trivial⟩ ?_⟩;simp[wk]
   obtain⟨k',q1,q2⟩:=next hd (by omega);refine aX (by kernel_rfl) fun _ K=>?_;simp(disch:=omega) only[kd,aa,Int.reduceLE,am,e9];apply K
   refine ia rfl (fC ?_);refine⟨k',by omega,aF ⟨rfl,trivial⟩ ?_⟩;simp[wk,q1,q2]
  have hmul:k.g*v2<=4294967295*4294967295:=Nat.mul_le_mul (by omega) (by omega);have e10:(k.g:Int)*(v2:Int)=((k.g*v2:Nat):Int):=by simp
  have e11:=vm (a:=k.r) (s:=32) (by omega) (by omega);have e12:=x6 (k.r*2^32) u0 (by omega) (by omega);rw[qQ k.r u0 32 (by omega),show k.r*2^32+u0=k.r*4294967296+u0 from rfl]at e12;by_cases hc:k.r*4294967296+u0<k.g*v2
  ·have hd:=down (.inr hc)
   replace e7:=e7.resolve_right (fun e=>by rw[e]at hd;exact absurd hd (Nat.not_lt_zero _))
   generalize k.g*v2=gv at*
   refine bY (gA aZ (by kernel_rfl) (by kernel_rfl) fun _ K=>?_);simp(disch:=omega) only[kd,aa,bF,Int.reduceLE,am,e5,e3,aP,hv2,dn,e10,e11,gu0,e12];apply K;refine ji rfl (fC ?_);refine eh ?_;refine aX (by kernel_rfl) fun _ K=>?_;simp(disch:=omega) only[kd,aa,e7,dn];apply K
   refine aX (by kernel_rfl) fun _ K=>?_;simp(disch:=omega) only[kd,aa,e2,aP,hv1,dn,e8];apply K
   by_cases hover:4294967296<=k.r+v1
   ·refine aX (by kernel_rfl) fun _ K=>?_;simp(disch:=omega) only[kd,aa,Int.reduceLE,am,e9];apply K
    refine ji rfl (f7 ?_);refine⟨k.g-1,stop hd hover,aF ⟨rfl,trivial⟩ ?_⟩;simp[wk]
   obtain⟨k',q1,q2⟩:=next hd (by omega);refine aX (by kernel_rfl) fun _ K=>?_;simp(disch:=omega) only[kd,aa,Int.reduceLE,am,e9];apply K
   refine ia rfl (fC ?_);refine⟨k',by omega,aF ⟨rfl,trivial⟩ ?_⟩;simp[wk,q1,q2]
  have hnear:=H2.near keq (by omega) (Nat.le_of_not_lt hc);generalize k.g*v2=gv at*
  refine bY (gA aZ (by kernel_rfl) (by kernel_rfl) fun _ K=>?_);simp(disch:=omega) only[kd,aa,bF,Int.reduceLE,am,e5,e3,aP,hv2,dn,e10,e11,gu0,e12];apply K;refine ia rfl (f7 ?_);refine⟨k.g,⟨kge,hnear,by omega⟩,aF ⟨rfl,trivial⟩ ?_⟩;simp[wk]
 rintro g ⟨hg1,hg2,hg3⟩;subst hR;clear gu2 gu1 gu0 a1 a2 a3 a4 hk1 hk2 hk3 k0;refine aX (by kernel_rfl) fun _ K=>?_;simp only[kd,bF];apply K
 refine bY (aX (by kernel_rfl) fun _ K=>?_);simp only[kd];apply K;refine f9 (G:=KO u v g) (fun m=>⟨(.one (.sl 0 0 off (n+3))::bF v::jk::jk::jk::.raw (.int .i64 ((n+2:Nat):Int))::jk::.raw (.int .u64 (g:Int))::jk::.raw (.int .u64 (m.c:Int))::.raw (.int .u64 (m.b:Int))::j16 (j16 (j16 (j16 (j4 (jk::jk::jk::.raw (.int .i64 ((n+2:Nat):Int))::rN m.i::j16 (j16 (j16 (j16 (j16 (j4 (jk::jk::jk::[])))))))))))),Hm [(0,[⟨79,1,lc fU (pre++((m.us++u.drop m.i)++post))⟩])]⟩) (fun m=>n+2-m.i) (KO.start u v g) ?_ ?_
 ·refine aF ⟨?_,trivial⟩ ?_
  ·simp[Hm,KO.start]
  simp[wk,KO.start]
 intro m;have hmi:=m.hi;have hmc:=m.hc;have hmb:=m.hb;have hml:=m.len;by_cases hlt:m.i<n+2
 ·obtain⟨x,hx⟩:=getElem?_of_lt (l:=v) (k:=m.i) (by omega);obtain⟨y,hy⟩:=getElem?_of_lt (l:=u) (k:=m.i) (by omega);have hx':=cn H.lv hx;have hy':=cn H.lu hy;obtain⟨c1,c2⟩:=Ac hg3 hx' hmc;have hgx:g*x<=4294967296*4294967295:=Nat.mul_le_mul hg3 (by omega);have e4:(g:Int)*(x:Int)=((g*x:Nat):Int):=by simp
  have e5:(m.c:Int)+((g*x:Nat):Int)=((m.c+g*x:Nat):Int):=by simp
  have hseg:=yj hml hy;have hsl:=yl (u:=u) hml (by omega);have hget:=lV (post:=post) hp hseg;have hlo:(m.c+g*x)%4294967296<4294967296:=Nat.mod_lt _ (by omega);obtain⟨b1,b2⟩:=QU y ((m.c+g*x)%4294967296) m.b hy' hlo hmb;obtain⟨m',q1,q2,q3,q4⟩:=LS m (l:=(y+8589934592-((m.c+g*x)%4294967296+m.b))%4294967296) (b':=if y<(m.c+g*x)%4294967296+m.b then 1 else 0) hg3 hx hy H.lv (Nat.mod_lt _ (by omega)) (by split<;>omega) (by split<;>omega);have hset:=sA (post:=post) ((y+8589934592-((m.c+g*x)%4294967296+m.b))%4294967296) hp (show m.i<(m.us++u.drop m.i).length by omega);rw[sB _ hml (by omega)]at hset;have e6:=sH (m.c+g*x);have e7:=GL (m.c+g*x);have hrl:(pre++((m.us++u.drop m.i)++post)).length=off+(n+3)+post.length:=by simp only[List.length_append]at hRl hsl⊢;omega
  generalize(m.c+g*x)%4294967296=lo at*
  generalize(m.c+g*x)/4294967296=hi' at*
  generalize g*x=gx at*
  generalize(if y<lo+m.b then 1 else 0:Nat)=nb at*
  generalize(y+8589934592-(lo+m.b))%4294967296=nl at*
  generalize hRR:pre++((m.us++u.drop m.i)++post)=RR at*
  refine aX (by kernel_rfl) fun _ K=>?_;simp(disch:=omega) only[kd,bF];apply K
  refine qw rfl ?_;refine bY (eh ?_);refine aX (by kernel_rfl) fun _ K=>?_;simp only[kd];apply K
  refine aX (by kernel_rfl) fun _ K=>?_;simp(disch:=omega) only[kd,aa,hx,dn,e4,e5];apply K
  refine aX (by kernel_rfl) fun _ K=>?_;simp(disch:=omega) only[kd,aa,hget,dn,e6];apply K
  refine aX (by kernel_rfl) fun _ K=>?_;simp(disch:=omega) only[kd,aa,b1,hget,dH,hset];apply K
  refine aX (by kernel_rfl) fun _ K=>?_;simp only[kd,aa,Int.reduceLE,am,e7];apply K
  refine dz (by kernel_rfl) fun _ K=>?_;simp only[kd,aa,Int.reduceLE,am,b2];apply K
  show fc _ _ _ _ _;refine dz (by kernel_rfl) fun _ K=>?_;simp(disch:=omega) only[kd,aP];apply K
  refine⟨m',by omega,aF ⟨?_,trivial⟩ ?_⟩
  ·rw[q1,q2];rfl
  simp[wk,q1,q3,q4]
 have hie:m.i=n+2:=by omega
 have hseg:(m.us++u.drop m.i)[n+2]?=some u2:=by
  have:=yj hml (show u[m.i]?=some u2 by rw[hie];exact H.hu2);rwa[hie]at this⊢
 have hsl:=yl (u:=u) hml (by omega);have hget:=lV (post:=post) hp hseg;have hset:=fun t=>sA (post:=post) t hp (show n+2<(m.us++u.drop m.i).length by omega)
 have hse: ∀t,(m.us++u.drop m.i).set (n+2) t=m.us++[t]:=fun t=>by
  have:=sB (u:=u) t hml (by omega);rw[List.drop_eq_nil_iff.2 (show u.length<=m.i+1 by omega),List.append_nil,hie]at this;rw[hie];exact this
 simp only[hse]at hset;obtain⟨b1,b2⟩:=QU u2 m.c m.b bu2 hmc hmb;have hrl:(pre++((m.us++u.drop m.i)++post)).length=off+(n+3)+post.length:=by simp only[List.length_append]at hRl hsl⊢;omega
 by_cases hno:m.c+m.b<=u2
 ·have b3:(u2:Int)-(m.c:Int)-(m.b:Int)=((u2-(m.c+m.b):Nat):Int):=by omega
  have b4:Int.fdiv ((u2-(m.c+m.b):Nat):Int) (2^(min 63 IntKind.u64.bits))=0:=by
   rw[C3 (by omega)];have:(u2-(m.c+m.b))/2^63=0:=Nat.div_eq_of_lt (by omega);rw[this];rfl
  have hnl:u2-(m.c+m.b)<4294967296:=by omega
  obtain⟨q1,q2⟩:=H.right m hie hg1 hno;have hs:=hset (u2-(m.c+m.b));rw[q2]at hs;have e7:IntKind.u32.wrap (g:Int)=((natV u/natV v:Nat):Int):=by rw[sH,q1];omega
  generalize u2-(m.c+m.b)=nl at*
  generalize hRR:pre++((m.us++u.drop m.i)++post)=RR at*
  refine aX (by kernel_rfl) fun _ K=>?_;simp(disch:=omega) only[kd,bF];apply K
  refine sX rfl ?_;show fc _ _ _ _ _;refine aX (by kernel_rfl) fun _ K=>?_;simp(disch:=omega) only[kd,aa,hget,dn,b3];apply K
  refine aX (by kernel_rfl) fun _ K=>?_;simp(disch:=omega) only[kd,aa,EG,hget,dH,hs];apply K
  refine bY (aX (by kernel_rfl) fun _ K=>?_);simp(disch:=omega) only[kd,aa,Int.reduceLE,am,b4];apply K;refine ji rfl ?_;refine aX (by kernel_rfl) fun _ K=>?_;simp only[kd,aa,e7];apply K
  refine nj ⟨.inr rfl,⟨(.one (.sl 0 0 off (n+3))::jk::jk::jk::.raw (.int .u32 ((natV u/natV v:Nat):Int))::j16 (j16 (j16 (j16 (j16 (j16 (j16 (j16 (j16 (j16 (j4 (jk::jk::[])))))))))))),Hm [(0,[⟨79,1,lc fU (pre++(bV (n+3) (natV u%natV v)++post))⟩])]⟩,aF ⟨rfl,trivial⟩ (by simp[wk]),rfl,lG _,?_⟩;simp(disch:=omega) only[kd,Tryz.results180]
 rw[if_pos (by omega)]at b2;obtain⟨t,ht⟩: ∃t,t=u2+4294967296-(m.c+m.b):=⟨_,rfl⟩;have ht4:t<4294967296:=by omega
 rw[show(u2+8589934592-(m.c+m.b))%4294967296=t by omega]at b1;have hs:=hset t;have lu':Lmb (m.us++[t]):=mK m.lmb ht4;have nu':(m.us++[t]).length=n+3:=by rw[List.length_append,hml,hie];rfl
 have hleft:=fun a hai=>H.left m hie hg2 (by omega) ht a hai
 have htop:(m.us++[t])[n+2]?=some t:=by rw[ap (by omega),hml,hie,Nat.sub_self];rfl
 clear hset hse hno ht;generalize hRR:pre++((m.us++u.drop m.i)++post)=RR at*
 refine aX (by kernel_rfl) fun _ K=>?_;simp(disch:=omega) only[kd,bF];apply K
 refine sX rfl ?_;show fc _ _ _ _ _;refine aX (by kernel_rfl) fun _ K=>?_;simp(disch:=omega) only[kd,aa,hget,dn];apply K
 refine aX (by kernel_rfl) fun _ K=>?_;simp(disch:=omega) only[kd,aa,b1,hget,dH,hs];apply K
 refine bY (aX (by kernel_rfl) fun _ K=>?_);simp(disch:=omega) only[kd,aa,Int.reduceLE,am,b2];apply K;refine ia rfl (fC ?_);show fc _ _ _ _ _;refine aX (by kernel_rfl) fun _ K=>?_;simp only[kd];apply K
 refine bY (aX (by kernel_rfl) fun _ K=>?_);simp only[kd];apply K;refine f9 (G:=KU (m.us++[t]) v) (fun a=>⟨(.one (.sl 0 0 off (n+3))::bF v::jk::jk::jk::.raw (.int .i64 ((n+2:Nat):Int))::jk::.raw (.int .u64 (g:Int))::jk::.raw (.int .u64 (a.c:Int))::j16 (j16 (j16 (j16 (j16 (j16 (j16 (j4 (j4 (j4 (jk::.raw (.int .i64 ((n+2:Nat):Int))::rN a.i::j16 (j16 (jk::jk::[]))))))))))))),Hm [(0,[⟨79,1,lc fU (pre++((a.us++(m.us++[t]).drop a.i)++post))⟩])]⟩) (fun a=>n+2-a.i) (KU.start _ _) ?_ ?_
 ·refine aF ⟨?_,trivial⟩ ?_
  ·simp[Hm,KU.start,bj]
  simp[wk,KU.start]
 intro a;have hai:=a.hi;have hac:=a.hc;have hal:=a.len;generalize m.us++[t]=U' at*
 have hsl2:=yl (u:=U') hal (by omega);have hrl2:(pre++((a.us++U'.drop a.i)++post)).length=off+(n+3)+post.length:=by simp only[List.length_append]at hsl2⊢;omega
 by_cases hlt2:a.i<n+2
 ·obtain⟨x,hx⟩:=getElem?_of_lt (l:=v) (k:=a.i) (by omega);obtain⟨y,hy⟩:=getElem?_of_lt (l:=U') (k:=a.i) (by omega);have hx':=cn H.lv hx;have hy':=cn lu' hy;have hget2:=lV (post:=post) hp (yj hal hy);have hset2:=sA (post:=post) ((a.c+(y+x))%4294967296) hp (show a.i<(a.us++U'.drop a.i).length by omega);rw[sB _ hal (by omega)]at hset2;obtain⟨a',q1,q2,q3⟩:=K7 a hx hy H.lv lu';have e4:(a.c:Int)+((y:Int)+(x:Int))=((a.c+(y+x):Nat):Int):=by omega
  have e6:=sH (a.c+(y+x));have e7:=GL (a.c+(y+x));generalize(a.c+(y+x))%4294967296=nl at*
  generalize(a.c+(y+x))/4294967296=nc at*
  generalize hR2:pre++((a.us++U'.drop a.i)++post)=R2 at*
  refine aX (by kernel_rfl) fun _ K=>?_;simp(disch:=omega) only[kd,bF];apply K
  refine qw rfl ?_;refine bY (eh ?_);refine aX (by kernel_rfl) fun _ K=>?_;simp only[kd];apply K
  refine gA aZ (by kernel_rfl) (by kernel_rfl) fun _ K=>?_;simp(disch:=omega) only[kd,aa,hget2,dn,hx,e4];apply K
  refine aX (by kernel_rfl) fun _ K=>?_;simp(disch:=omega) only[kd,aa,e6,hget2,dH,hset2];apply K
  refine dz (by kernel_rfl) fun _ K=>?_;simp only[kd,aa,Int.reduceLE,am,e7];apply K
  show fc _ _ _ _ _;refine dz (by kernel_rfl) fun _ K=>?_;simp(disch:=omega) only[kd,aP];apply K
  refine⟨a',by omega,aF ⟨?_,trivial⟩ ?_⟩
  ·rw[q1,q2];rfl
  simp[wk,q1,q3]
 have hae:a.i=n+2:=by omega
 obtain⟨q1,q2⟩:=hleft a hae;have hget2:(pre++((a.us++U'.drop a.i)++post))[off+(n+2)]?=some t:=by
  have:=lV (post:=post) hp (yj hal (show U'[a.i]?=some t by rw[hae];exact htop));rwa[hae]at this⊢
 have hset2:=sA (post:=post) ((t+a.c)%4294967296) hp (show a.i<(a.us++U'.drop a.i).length by omega);rw[sB _ hal (by omega),List.drop_eq_nil_iff.2 (show U'.length<=a.i+1 by omega),List.append_nil,q2,hae]at hset2;have e4:IntKind.u32.wrap ((t:Int)+(a.c:Int))=(((t+a.c)%4294967296:Nat):Int):=by rw[<- sH];congr 1<;>omega
 have e5:(g:Int)-1=((natV u/natV v:Nat):Int):=by rw[q1];simp
 have e6:IntKind.u32.wrap ((natV u/natV v:Nat):Int)=((natV u/natV v:Nat):Int):=by rw[sH];congr 1;exact Nat.mod_eq_of_lt hqlt
 have e8:IntKind.u64.wrap ((natV u/natV v:Nat):Int)=((natV u/natV v:Nat):Int):=by
  generalize natV u/natV v=qq at*
  rw[IntKind.wrap_u64];omega
 have hRe:pre++((a.us++U'.drop a.i)++post)=pre++((a.us++U'.drop (n+2))++post):=by rw[hae]
 generalize(t+a.c)%4294967296=nl at*
 rw[<- hRe]at hset2;generalize hR2:pre++((a.us++U'.drop a.i)++post)=R2 at*
 refine aX (by kernel_rfl) fun _ K=>?_;simp(disch:=omega) only[kd,bF];apply K
 refine sX rfl ?_;show fc _ _ _ _ _;refine aX (by kernel_rfl) fun _ K=>?_;simp(disch:=omega) only[kd,aa,hget2,EG,e4,dH,hset2];apply K
 refine aX (by kernel_rfl) fun _ K=>?_;simp only[kd,aa,e5,e8,e6];apply K
 refine nj ⟨.inr rfl,⟨(.one (.sl 0 0 off (n+3))::jk::jk::jk::.raw (.int .u32 ((natV u/natV v:Nat):Int))::j16 (j16 (j16 (j16 (j16 (j16 (j16 (j16 (j16 (j16 (j4 (jk::jk::[])))))))))))),Hm [(0,[⟨79,1,lc fU (pre++(bV (n+3) (natV u%natV v)++post))⟩])]⟩,aF ⟨rfl,trivial⟩ (by simp[wk]),rfl,lG _,?_⟩;simp(disch:=omega) only[kd,Tryz.results180]
section
theorem mP: ∀(k n x:Nat),bV (k+n) x=bV k x++bV n (x/4294967296^k)
 |0,n,x=>by simp[bV]
 |k+1,n,x=>by
  rw[show k+1+n=(k+n)+1 by omega,bV,mP k n,bV,Nat.div_div_eq_div_mul,Nat.pow_succ,Nat.mul_comm 4294967296];rfl
theorem uw: ∀(k x:Nat),bV k (x%4294967296^k)=bV k x
 |0,x=>rfl
 |k+1,x=>by
  rw[bV,bV,Nat.pow_succ,Nat.mul_comm (4294967296^k),Nat.mod_mul_right_mod,Nat.mod_mul_right_div_self,uw k]
theorem pK (k n x y:Nat) (hx:x<4294967296^k):bV (k+n) (y*4294967296^k+x)=bV k x++bV n y:=by
 have hp:0<4294967296^k:=Nat.pow_pos (by omega);rw[mP,<- uw k (y*4294967296^k+x),Nat.mul_comm y,Nat.mul_add_mod,Nat.mod_eq_of_lt hx,Nat.mul_add_div hp,Nat.div_eq_of_lt hx,Nat.add_zero]
theorem wM: ∀n,bV n 0=ae n 0
 |0=>rfl
 |n+1=>by rw[bV,Nat.zero_mod,Nat.zero_div,wM n];rfl
def eK (A V k:Nat):Nat:=A%(V*4294967296^k)
def kL (A V k:Nat):Nat:=A/(V*4294967296^k)*4294967296^k
section
variable {A V k:Nat} (hV:0<V)
include hV
theorem JD : eK A V (k + 1) / 4294967296 ^ k < V * 4294967296 := by
  have hp : 0 < 4294967296 ^ k := Nat.pow_pos (by omega);rw [Nat.div_lt_iff_lt_mul hp];have := Nat.mod_lt A (show 0 < V * 4294967296 ^ (k + 1) from Nat.mul_pos hV (Nat.pow_pos (by omega)));rw [Nat.pow_succ] at this;unfold eK;rw [Nat.pow_succ]
  calc _ < V * (4294967296 ^ k * 4294967296) := this
    _ = _ := by grind
omit hV in
theorem JF:eK A V k=eK A V (k+1)/4294967296^k%V*4294967296^k+eK A V (k+1)%4294967296^k:=by
 unfold eK;have e:V*4294967296^(k+1)=V*4294967296^k*4294967296:=by rw[Nat.pow_succ];grind
 have h1:A%(V*4294967296^k)=A%(V*4294967296^(k+1))%(V*4294967296^k):=by rw[e,Nat.mod_mul_right_mod]
 rw[h1];generalize A%(V*4294967296^(k+1))=x;rw[Nat.mul_comm V,Nat.mod_mul];generalize 4294967296^k=p;rw[Nat.add_comm,Nat.mul_comm p]
theorem Jw:kL A V k=kL A V (k+1)+eK A V (k+1)/4294967296^k/V*4294967296^k:=by
 unfold kL eK;have hp:0<4294967296^k:=Nat.pow_pos (by omega);have e:V*4294967296^(k+1)=V*4294967296^k*4294967296:=by rw[Nat.pow_succ];grind
 have h1:=Nat.div_add_mod A (V*4294967296^(k+1));generalize hq:A/(V*4294967296^(k+1))=q at*
 generalize hr:A%(V*4294967296^(k+1))=r at*
 have h2:A/(V*4294967296^k)=q*4294967296+r/4294967296^k/V:=by
  rw[<- h1,e,Nat.mul_assoc (V*4294967296^k),Nat.mul_add_div (Nat.mul_pos hV hp),Nat.div_div_eq_div_mul,Nat.mul_comm (4294967296^k) V,Nat.mul_comm 4294967296]
 rw[h2,Nat.pow_succ];grind
theorem pO:eK A V (k+1)/4294967296^k/V<4294967296:=by
 rw[Nat.div_lt_iff_lt_mul hV,Nat.mul_comm];exact JD hV
end
theorem Md {A V k m:Nat} (hV:0<V) (hk:k<m) (hb:kL A V (k+1)<4294967296^m):(bV m (kL A V (k+1))).set k (eK A V (k+1)/4294967296^k/V)=bV m (kL A V k):=by
 have hd:=pO (A:=A) (k:=k) hV;rw[Jw (A:=A) (k:=k) hV];generalize eK A V (k+1)/4294967296^k/V=d at*
 obtain⟨q,hq⟩: ∃q,kL A V (k+1)=q*4294967296^(k+1):=⟨_,rfl⟩;rw[hq];obtain⟨r,rfl⟩: ∃r,m=k+(1+r):=⟨m-(k+1),by omega⟩;have e1:q*4294967296^(k+1)=(q*4294967296)*4294967296^k+0:=by rw[Nat.pow_succ];grind
 have e2:q*4294967296^(k+1)+d*4294967296^k=(q*4294967296+d)*4294967296^k+0:=by rw[Nat.pow_succ];grind
 have hp:0<4294967296^k:=Nat.pow_pos (by omega);rw[e2,pK _ _ _ _ hp,e1,pK _ _ _ _ hp,List.set_append_right _ _ (by rw[bQ];exact ac _),bQ,Nat.sub_self,Nat.add_comm 1 r,bV,bV,List.set_cons_zero];have a1:(q*4294967296+d)%4294967296=d:=by omega
 have a2:(q*4294967296+d)/4294967296=q*4294967296/4294967296:=by omega
 rw[a1,a2]
theorem Ms {A V k nb na:Nat} (hk:k+nb<=na):bV (na+1) (eK A V (k+1))=bV k (eK A V (k+1))++(bV (nb+1) (eK A V (k+1)/4294967296^k)++bV (na-(k+nb)) (eK A V (k+1)/4294967296^(k+nb+1))):=by
 conv=>lhs;rw[show na+1=k+((nb+1)+(na-(k+nb))) by omega]
 rw[mP,mP,Nat.div_div_eq_div_mul,<- Nat.pow_add,show k+(nb+1)=k+nb+1 by omega]
theorem JE {A V k nb na:Nat} (hV:0<V) (hVB:V<=4294967296^nb) (hk:k+nb<=na):bV k (eK A V (k+1))++(bV (nb+1) (eK A V (k+1)/4294967296^k%V)++bV (na-(k+nb)) (eK A V (k+1)/4294967296^(k+nb+1)))=bV (na+1) (eK A V k):=by
 have hp:0<4294967296^k:=Nat.pow_pos (by omega);have hz:eK A V (k+1)/4294967296^(k+nb+1)=0:=by
  apply Nat.div_eq_of_lt;have:=Nat.mod_lt A (show 0<V*4294967296^(k+1)from Nat.mul_pos hV (Nat.pow_pos (by omega)));unfold eK;refine Nat.lt_of_lt_of_le this ?_;have e:4294967296^(k+nb+1)=4294967296^nb*4294967296^(k+1):=by rw[<- Nat.pow_add];congr 1;omega
  rw[e];exact Nat.mul_le_mul_right _ hVB
 have hm:=Nat.mod_lt (eK A V (k+1)/4294967296^k) hV;rw[JF (A:=A) (V:=V) (k:=k),hz];generalize eK A V (k+1)/4294967296^k%V=u at*
 rw[<- uw k (eK A V (k+1))];have hx:=Nat.mod_lt (eK A V (k+1)) hp;generalize eK A V (k+1)%4294967296^k=x at*
 have hu:u<4294967296^(nb+1):=by
  have:4294967296^nb<=4294967296^(nb+1):=Nat.pow_le_pow_right (by omega) (by omega);omega
 rw[show na+1=k+((nb+1)+(na-(k+nb))) by omega,pK _ _ _ _ hx]
 congr 1
 have:=pK (nb+1) (na-(k+nb)) u 0 hu;rw[Nat.zero_mul,Nat.zero_add]at this;exact this.symm
/-! The shift. -/
theorem zj: ∀(x:Nat),x≠0->x<18446744073709551616->1<=Lib.bitLen x/\2^(Lib.bitLen x-1)<=x/\x<2^Lib.bitLen x:=fun x=>by
 induction x using Nat.strongRecOn with
 |_ x ih=>
  intro h0 hx;have hh:=Lib.bitLen_half x h0 hx;by_cases h1:x/2=0
  ·have hx1:x=1:=by omega
   subst hx1;have:Lib.bitLen 1=1:=by decide
   rw[this];exact⟨by omega,by decide,by decide⟩
  obtain⟨q1,q2,q3⟩:=ih (x/2) (by omega) h1 (by omega);rw[hh];refine⟨by omega,?_,?_⟩
  ·rw[show 1+Lib.bitLen (x/2)-1=(Lib.bitLen (x/2)-1)+1 by omega,Nat.pow_succ];omega
  rw[Nat.add_comm,Nat.pow_succ];omega
def lz (x:Nat):Nat:=32-Lib.bitLen x
theorem LO {x : Nat} (h0 : x ≠ 0) (hx : x < 4294967296) : lz x < 32 /\ 2147483648 <= x * 2 ^ lz x /\ x * 2 ^ lz x < 4294967296 := by
  obtain ⟨h1, h2, h3⟩ := zj x h0 (by omega);have h4 := Lib.bitLen_le x 32 (by omega) (by simpa using hx);unfold lz;refine ⟨by omega, ?_, ?_⟩
  · calc 2147483648 = 2 ^ (Lib.bitLen x - 1) * 2 ^ (32 - Lib.bitLen x) := by
          rw [<- Nat.pow_add, show Lib.bitLen x - 1 + (32 - Lib.bitLen x) = 31 by omega]
      _ <= _ := Nat.mul_le_mul_right _ h2
  · calc x * 2 ^ (32 - Lib.bitLen x) < 2 ^ Lib.bitLen x * 2 ^ (32 - Lib.bitLen x) := Nat.mul_lt_mul_of_pos_right h3 (Nat.two_pow_pos _)
      _ = 4294967296 := by rw [<- Nat.pow_add, show Lib.bitLen x + (32 - Lib.bitLen x) = 32 by omega]
theorem MH {b n x s : Nat} (hl : (aR b).length = n + 1) (hx : (aR b)[n]? = some x) (hs : 2147483648 <= x * 2 ^ s /\ x * 2 ^ s < 4294967296) (hs32 : s < 32) :
    b * 2 ^ s < 4294967296 ^ (n + 1) /\ 2147483648 * 4294967296 ^ n <= b * 2 ^ s := by
  have h1 := bM hx;rw [List.take_of_length_le (by omega), aQ] at h1;have h2 := ff (aW b) n;have hp : 0 < 4294967296 ^ n := Nat.pow_pos (by omega);have hps := Am hs32;constructor
  · -- b < (x + 1) B^n, and (x + 1) 2^s <= B, for x 2^s < B and 2^s divides B
    have h3 : (x + 1) * 2 ^ s <= 4294967296 := by
      have e : 4294967296 = 2 ^ (32 - s) * 2 ^ s := by rw [<- Nat.pow_add, show 32 - s + s = 32 by omega]
      rw [e] at hs ⊢;exact Nat.mul_le_mul_right _ (Nat.lt_of_mul_lt_mul_right hs.2)
    calc b * 2 ^ s < (x + 1) * 4294967296 ^ n * 2 ^ s := by
          refine Nat.mul_lt_mul_of_pos_right ?_ (Nat.two_pow_pos s);rw [h1, Nat.add_mul, Nat.one_mul]; omega
      _ = (x + 1) * 2 ^ s * 4294967296 ^ n := by grind
      _ <= 4294967296 * 4294967296 ^ n := Nat.mul_le_mul_right _ h3
      _ = 4294967296 ^ (n + 1) := by rw [Nat.pow_succ, Nat.mul_comm]
  · calc 2147483648 * 4294967296 ^ n <= x * 2 ^ s * 4294967296 ^ n := Nat.mul_le_mul_right _ hs.1
      _ = x * 4294967296 ^ n * 2 ^ s := by grind
      _ <= b * 2 ^ s := Nat.mul_le_mul_right _ (by omega)
end
theorem Ov {A V k n : Nat} (hV1 : V < 4294967296 ^ (n + 2)) (hV2 : 2147483648 * 4294967296 ^ (n + 1) <= V) : ∃ v1 v2 u2 u1 u0, vq (bV (n + 3) (eK A V (k + 1) / 4294967296 ^ k)) (bV (n + 2) V) n v1 v2 u2 u1 u0 /\ natV (bV (n + 3) (eK A V (k + 1) / 4294967296 ^ k)) = eK A V (k + 1) / 4294967296 ^ k /\ natV (bV (n + 2) V) = V := by
  have hp : 0 < 4294967296 ^ (n + 1) := Nat.pow_pos (by omega);have hV : 0 < V := by omega
  have hr := JD (A := A) (k := k) hV;have hlt : eK A V (k + 1) / 4294967296 ^ k < 4294967296 ^ (n + 3) := by
    calc _ < V * 4294967296 := hr
      _ <= 4294967296 ^ (n + 2) * 4294967296 := Nat.mul_le_mul_right _ (Nat.le_of_lt hV1)
      _ = _ := (Nat.pow_succ ..).symm
  refine ⟨_, _, _, _, _, ⟨mJ _ _, mJ _ _, bQ _ _, bQ _ _, fF (by omega), fF (by omega), fF (by omega), fF (by omega), fF (by omega), ?_, ?_⟩, fK hlt, fK hV1⟩
  · have h1 : V / 4294967296 ^ (n + 1) < 4294967296 := by
      rw [Nat.div_lt_iff_lt_mul hp];have : 4294967296 ^ (n + 2) = 4294967296 ^ (n + 1) * 4294967296 := Nat.pow_succ ..;omega
    rw [Nat.mod_eq_of_lt h1, Nat.le_div_iff_mul_le hp];exact hV2
  · rw [fK hlt, fK hV1]; exact hr
theorem Ga {a b s n m:Nat} (ha:a<4294967296^(n+2+m)) (hb:4294967296^(n+1)<=b):eK (a*2^s) (b*2^s) (m+1)=a*2^s/\kL (a*2^s) (b*2^s) (m+1)=0:=by
 have h1:a*2^s<b*2^s*4294967296^(m+1):=by
  have h2:4294967296^(n+2+m)<=b*4294967296^(m+1):=by
   have e:4294967296^(n+2+m)=4294967296^(n+1)*4294967296^(m+1):=by rw[<- Nat.pow_add];congr 1;omega
   rw[e];exact Nat.mul_le_mul_right _ hb
  rw[Nat.mul_right_comm];exact Nat.mul_lt_mul_of_pos_right (Nat.lt_of_lt_of_le ha h2) (Nat.two_pow_pos s)
 unfold eK kL;rw[Nat.mod_eq_of_lt h1,Nat.div_eq_of_lt h1,Nat.zero_mul];exact⟨rfl,rfl⟩
theorem Mr {a b s:Nat}:eK (a*2^s) (b*2^s) 0=a%b*2^s/\kL (a*2^s) (b*2^s) 0=a/b:=by
 unfold eK kL;rw[Nat.pow_zero,Nat.mul_one,Nat.mul_one,Nat.mul_mod_mul_right,Nat.mul_div_mul_right _ _ (Nat.two_pow_pos s)];exact⟨rfl,rfl⟩
theorem OK {A V k m:Nat} (hA:A<V*4294967296^m) (hk:k<=m):kL A V k<4294967296^m:=by
 have hp:0<4294967296^k:=Nat.pow_pos (by omega);unfold kL;have h1:A/(V*4294967296^k)<4294967296^(m-k):=by
  rw[<- Nat.div_div_eq_div_mul];apply Nat.div_lt_of_lt_mul;apply Nat.div_lt_of_lt_mul;have e:4294967296^m=4294967296^k*4294967296^(m-k):=by rw[<- Nat.pow_add];congr 1;omega
  rw[e]at hA;exact hA
 have e:4294967296^m=4294967296^(m-k)*4294967296^k:=by rw[<- Nat.pow_add];congr 1;omega
 rw[e];exact Nat.mul_lt_mul_of_pos_right h1 hp
theorem AT {b n:Nat} (h:(aR b).length=n+1): ∃x,(aR b)[n]?=some x/\x≠0/\x<4294967296/\4294967296^n<=b:=by
 obtain⟨x,hx⟩: ∃x,(aR b)[n]?=some x:=⟨(aR b)[n],by simp[h]⟩;have hc:=cd b;unfold ov at hc;rw[List.getLast?_eq_getElem?,h,Nat.add_sub_cancel,hx]at hc;have hx0:x≠0:=fun e=>hc (by rw[e])
 have h1:=bM hx;rw[List.take_of_length_le (by omega),aQ]at h1;refine⟨x,hx,hx0,cn (aW b) hx,?_⟩;rw[h1];have:1*4294967296^n<=x*4294967296^n:=Nat.mul_le_mul_right _ (by omega);omega
theorem Fy {b:Nat} (h:(aR b).length=1):(aR b)[0]?=some b/\b<4294967296:=by
 obtain⟨x,hx,_,hx',_⟩:=AT (n:=0) h;have h1:=bM hx;rw[List.take_of_length_le (by omega),aQ]at h1;simp[natV]at h1;subst h1;exact⟨hx,hx'⟩
theorem zW (a:Nat):a<4294967296^(aR a).length:=by
 have:=fJ (aW a);rwa[aQ]at this
theorem F3 {n m x:Nat} (h:n<=m):(bV m x).take n=bV n x:=by
 obtain⟨d,rfl⟩: ∃d,m=n+d:=⟨m-n,by omega⟩;rw[mP,List.take_left' (bQ _ _)]
theorem PR (x:Nat) (h:x<4294967296):CallC Tryz.prog 178 [.raw (.int .u32 (x:Int))] ⟨[],.raw (.int .i64 (lz x:Int))⟩:=by
 refine ii (by kernel_rfl) fun X w vs hX hvs ha=>?_
 obtain⟨v0,e0,r0⟩:=mv ha (j:=0) rfl;obtain⟨rfl,_⟩:=cf (ρ:=fun _ _=>none) (H:=fun _=>[]) r0;obtain rfl:vs= #[.int .u32 (x:Int)]:=by
  apply Array.ext_getElem?;intro j
  match j with
  |0=>exact e0
  |j+1=>rw[Array.getElem?_eq_none (by simp at hvs;omega)];rfl
 have hb:=Lib.bitLen_le x 32 (by omega) (by simpa using h);have e:(32-(Lib.bitLen (x:Int).toNat:Int))=(lz x:Int):=by rw[Int.toNat_natCast];unfold lz;omega
 have:=Any.bits_LeadingZeros32 Tryz.lays133 (x:Int) w (by omega) (by omega);rw[e]at this;exact this.mono fun e w' ⟨h1,h2⟩=>⟨_,h1,fun ρ H Y=>dE rfl,by rw[h2];exact Ext.refl _⟩
theorem E5 {P:Program} {f:FuncId} {args:List TV} {l:List Nat} (hl:0<l.length) (hc:callable P f=true) (h: ∀(X:Nat->Prop) (w:World) (vs:Array Value),(∀b,X b->b<w.heap.size)->vs.size=args.length->
  (∀(j:Nat) t,args[j]?=some t-> ∃v:Value,vs[j]?=some v/\t.rel (fun _ _=>none) (fun _=>[]) X w v)->Calls P f vs w fun e w'=> ∃v,e= .returned v/\w'.ownsRow w.heap.size 79 1 v l.length ((l.map fun n:Nat=>(n:Int)).map (Value.int .u32))/\Ext w w'):CallC P f args ⟨[⟨79,1,lc fU l⟩],.one (.sl 0 0 0 l.length)⟩:=
 ⟨hc,fun X w vs hX hvs ha=>(h X w vs hX hvs ha).mono fun e w' ⟨v,h1,⟨_,h2⟩,h3⟩=>by
  rcases h2 with⟨_,hn⟩|⟨g,cap,cur,hv,hg,hh,hnc,hm2,hs,ht⟩
  ·omega
  have hr:rho1 g cap 0 0=some (g,cap):=by simp[rho1]
  have hcell: ∀(i:Nat) z,l[i]?=some z->cur[i]?=some (.int .u32 (z:Int)):=fun i z hz=>by
   have h3:((l.map fun n:Nat=>(n:Int)).map (Value.int .u32))[i]?=some (.int .u32 (z:Int)):=by rw[List.getElem?_map,List.getElem?_map,hz];rfl
   rw[<- ht,List.getElem?_take]at h3;split at h3
   ·simpa using h3
   cases h3
  refine⟨v,h1,rho1 g cap,⟨zE h3,fun a r o ho=>?_,fun a r a' r' o o' b c c' ho ho' _ _=>?_,fun a r o b c ho hb=>?_,fun b hb=>Nat.lt_of_lt_of_le (hX b hb) h3.size,fun a r o ho=>?_⟩,?_⟩
  ·obtain⟨rfl,rfl,rfl⟩:=rS ho;refine⟨fun e he=>?_,Nat.zero_lt_one,?_⟩
   ·obtain⟨z,_,rfl⟩:=List.mem_map.1 he;rfl
   rw[hr];refine⟨cur,hh,hs,by rw[tW];exact hnc,hm2,fun i e j x he hx=>?_⟩;simp only at he;rw[Ca]at he;obtain⟨z,hz,rfl⟩:=Option.map_eq_some_iff.1 he;cases j with
   |succ j=>simp[fU]at hx
   |zero=>
    simp[fU]at hx;subst hx;exact⟨.int .u32 (z:Int),by rw[Nat.mul_one,Nat.add_zero];exact hcell i z hz,rfl,cu.raw _ rfl⟩
  ·obtain⟨rfl,rfl,_⟩:=rS ho;obtain⟨rfl,rfl,_⟩:=rS ho';exact⟨rfl,rfl⟩
  ·obtain⟨rfl,rfl,_⟩:=rS ho;rw[hr]at hb;injection hb with hb
   injection hb with hb _
   subst hb;exact⟨.inl hg,fun hX'=>absurd (hX _ hX') (by omega)⟩
  ·obtain⟨rfl,rfl,rfl⟩:=rS ho;exact dx (dD _ _)
  exact⟨_,rfl,by simp[tW],.inr ⟨g,cap,cap,hr,by rw[hv];simp,hnc,fun _=>rfl⟩⟩⟩
theorem Fr (l:List Nat) (h0:0<l.length) (hl:l.length<=1073741824):CallC Tryz.prog 162 [bF l] ⟨[⟨79,1,lc fU l⟩],.one (.sl 0 0 0 l.length)⟩:=by
 refine E5 h0 (by kernel_rfl) fun X w vs hX hvs ha=>?_
 obtain⟨v0,e0,r0⟩:=mv ha (j:=0) rfl;obtain⟨A,c,rfl,hc,hR⟩:=Ej r0;obtain rfl:vs= #[.slice A l.length c]:=by
  apply Array.ext_getElem?;intro j
  match j with
  |0=>exact e0
  |j+1=>rw[Array.getElem?_eq_none (by simp at hvs;omega)];rfl
 have hlen:(l.map fun n:Nat=>(n:Int)).length=l.length:=List.length_map _;have:=tg A c (l.map fun n:Nat=>(n:Int)) w hR (by rw[hlen];omega);rw[hlen]at this;exact this
section
theorem dI (c:Int) (F:Nat->Int): ∀k,cP (fun p=>c*F p) k=c*cP F k
 |0=>by simp[cP]
 |k+1=>by rw[cP,cP,dI c F k];grind
theorem u6 (c:Int) (F:Nat->Int) (k:Nat):cP (fun p=>F p*c) k=cP F k*c:=by
 rw[Int.mul_comm,<- dI];exact bf k fun p _=>Int.mul_comm _ _
theorem qa (F:FF) (m:Nat): ∀n,cP (fun i=>cP (F i) m) n=cP (fun j=>cP (fun i=>F i j) n) m
 |0=>by simp only[cP];exact(eQ m).symm
 |n+1=>by rw[cP,qa F m n,<- jZ];rfl
theorem yr {F:Nat->Int} {B:Int}: ∀k,(∀p,p<k-> -B<=F p/\F p<=B)-> -((k:Int)*B)<=cP F k/\cP F k<=(k:Int)*B
 |0,_=>by simp[cP]
 |k+1,h=>by
  have ih:=yr k fun p hp=>h p (by omega)
  have h1:=h k (by omega);have e:(((k+1:Nat):Int))*B=(k:Int)*B+B:=by rw[Int.natCast_add,Int.add_mul];simp
  rw[cP,e];omega
def BF (n:Nat) (f:FF) (x y:Nat->Int):Int:=cP (fun i=>x i*cP (fun j=>f i j*y j) n) n
variable {n:Nat}
theorem eG {f f':FF} {x x' y y':Nat->Int} (hf: ∀i j,i<n->j<n->f i j=f' i j) (hx: ∀i,i<n->x i=x' i) (hy: ∀i,i<n->y i=y' i):BF n f x y=BF n f' x' y':=
 bf n fun i hi=>by rw[hx i hi,bf n fun j hj=>by rw[hf i j hi hj,hy j hj]]
theorem jG (f:FF) (x x' y:Nat->Int) (c:Int):BF n f (fun i=>x i+c*x' i) y=BF n f x y+c*BF n f x' y:=by
 unfold BF;rw[<- dI,<- jZ];exact bf n fun i _=>by grind
theorem ir (f:FF) (x y y':Nat->Int) (c:Int):BF n f x (fun i=>y i+c*y' i)=BF n f x y+c*BF n f x y':=by
 unfold BF;rw[<- dI,<- jZ];refine bf n fun i _=>?_
 rw[bf n (G:=fun j=>f i j*y j+c*(f i j*y' j)) (fun j _=>by grind),jZ,dI];grind
theorem rX (f g:FF) (x y:Nat->Int) (a b:Int):BF n (fun i j=>a*f i j+b*g i j) x y=a*BF n f x y+b*BF n g x y:=by
 unfold BF;rw[<- dI,<- dI,<- jZ];refine bf n fun i _=>?_
 rw[bf n (G:=fun j=>a*(f i j*y j)+b*(g i j*y j)) (fun j _=>by grind),jZ,dI,dI];grind
theorem C6 (u v x y:Nat->Int):BF n (fun i j=>u i*v j) x y=cP (fun i=>x i*u i) n*cP (fun j=>v j*y j) n:=by
 unfold BF;rw[<- u6];refine bf n fun i _=>?_
 rw[bf n (G:=fun j=>u i*(v j*y j)) (fun j _=>by grind),dI];grind
theorem qr {f:FF} (hs:SymF f n) (x y:Nat->Int):BF n f x y=BF n f y x:=by
 unfold BF;rw[bf n (G:=fun i=>cP (fun j=>x i*f i j*y j) n) (fun i _=>by rw[<- dI];exact bf n fun j _=>by grind),
  bf n (F:=fun i=>y i*_) (G:=fun i=>cP (fun j=>x j*f j i*y i) n) (fun i hi=>by rw[<- dI];exact bf n fun j hj=>by rw[hs i hi j hj];grind)]
 exact qa _ _ _
theorem n9 {f:FF} (hs:SymF f n) (hp: ∀k,k<n->0<dk f (k+1)) (x:Nat->Int): ∀m k,m+k=n->0<=BF n (bk f k) x x/\(BF n (bk f k) x x=0-> ∀i,k<=i->i<n->x i=0)
 |0,k,h=>by
  obtain rfl:k=n:=by omega
  refine⟨?_,fun _ i h1 h2=>by omega⟩;have:BF k (bk f k) x x=0:=by
   unfold BF;rw[bf k (G:=fun _=>0) (fun i hi=>by rw[bf k (G:=fun _=>0) (fun j _=>by rw[jJ f hi,Int.zero_mul]),eQ,Int.mul_zero]),eQ]
  omega
 |m+1,k,h=>by
  obtain⟨h1,h2⟩:=n9 hs hp x m (k+1) (by omega);have hne: ∀t,t<n->dk f (t+1)≠0:=fun t ht=>by have:=hp t ht;omega
  have hd:0<dk f k:=j9 fun t ht=>hp t (by omega)
  have hd1:=hp k (by omega);have key:dk f k*BF n (bk f (k+1)) x x=dk f (k+1)*BF n (bk f k) x x-cP (fun j=>bk f k k j*x j) n*cP (fun j=>bk f k k j*x j) n:=by
   have e0:dk f k*BF n (bk f (k+1)) x x=BF n (fun i j=>dk f k*bk f (k+1) i j+0*bk f k i j) x x:=by rw[rX];omega
   rw[e0,eG (f':=fun i j=>dk f (k+1)*bk f k i j+(-1)*(bk f k k i*bk f k k j)) (fun i j hi hj=>by
    have:=sylv f k (fun t ht=>hne t (by omega)) i j;have e:=j8 hs k (by omega) (fun t ht=>hne t (by omega)) i k hi (by omega);rw[e]at this;omega) (fun _ _=>rfl) (fun _ _=>rfl),rX,C6,bf n (F:=fun i=>x i*bk f k k i) (G:=fun j=>bk f k k j*x j) (fun i _=>Int.mul_comm _ _)]
   omega
  have hsq:0<=cP (fun j=>bk f k k j*x j) n*cP (fun j=>bk f k k j*x j) n:=by
   rcases Int.le_total 0 (cP (fun j=>bk f k k j*x j) n)with h|h
   ·exact Int.mul_nonneg h h
   exact Int.mul_nonneg_of_nonpos_of_nonpos h h
  have hpr:=Int.mul_nonneg (Int.le_of_lt hd) h1;have hge:0<=dk f (k+1)*BF n (bk f k) x x:=by omega
  refine⟨?_,fun hz=>?_⟩
  ·rcases Int.lt_or_le (BF n (bk f k) x x) 0 with hl|hl
   ·have:=Int.mul_neg_of_pos_of_neg hd1 hl;omega
   exact hl
  rw[hz,Int.mul_zero]at key;have z1:dk f k*BF n (bk f (k+1)) x x=0:=by omega
  have z2:cP (fun j=>bk f k k j*x j) n*cP (fun j=>bk f k k j*x j) n=0:=by omega
  have z3:BF n (bk f (k+1)) x x=0:=by
   rcases Int.mul_eq_zero.1 z1 with h|h
   ·omega
   exact h
  have z4:cP (fun j=>bk f k k j*x j) n=0:=by
   rcases Int.mul_eq_zero.1 z2 with h|h<;>exact h
  have hx:=h2 z3;rw[i6 (a:=k) (by omega) (fun p hpn hpk=>by
   by_cases hlt:p<k
   ·rw[xv hs hne (by omega) hlt (by omega),Int.zero_mul]
   rw[hx p (by omega) hpn,Int.mul_zero])]at z4
  rw[b8]at hd1;intro i hi hin;by_cases e:i=k
  ·subst e;rcases Int.mul_eq_zero.1 z4 with h|h
   ·omega
   exact h
  exact hx i (by omega) hin
theorem GQ {f:FF} (hr:RedR f n) (x:Nat->Int):0<=BF n f x x/\(BF n f x x=0↔ ∀i,i<n->x i=0):=by
 have h:=n9 hr.1 hr.2.1 x n 0 rfl;have e:BF n (bk f 0) x x=BF n f x x:=eG (fun i j _ _=>dG f i j) (fun _ _=>rfl) (fun _ _=>rfl);rw[e]at h;refine⟨h.1,fun hz i hi=>h.2 hz i (by omega) hi,fun h0=>?_⟩;unfold BF;rw[bf n (G:=fun _=>0) (fun i hi=>by rw[h0 i hi,Int.zero_mul]),eQ]
theorem schwarz {f:FF} (hr:RedR f n) (x y:Nat->Int):BF n f x y*BF n f x y<=BF n f x x*BF n f y y:=by
 have hs:=qr hr.1 x y;obtain⟨h1,h2⟩:=GQ hr y;obtain⟨q,hq⟩: ∃q,q=BF n f x y:=⟨_,rfl⟩;obtain⟨o,ho⟩: ∃o,o=BF n f y y:=⟨_,rfl⟩;obtain⟨N,hN⟩: ∃N,N=BF n f x x:=⟨_,rfl⟩;have hpos:=(GQ hr (fun i=>(0+o*x i)+(-q)*y i)).1;have e:BF n f (fun i=>(0+o*x i)+(-q)*y i) (fun i=>(0+o*x i)+(-q)*y i)=o*(o*N-q*q):=by
  have ez: ∀u,BF n f (fun _=>0) u=0:=fun u=>by
   unfold BF;rw[bf n (G:=fun _=>0) (fun i _=>Int.zero_mul _),eQ]
  have ez': ∀u,BF n f u (fun _=>0)=0:=fun u=>by rw[qr hr.1,ez]
  rw[jG f (fun i=>0+o*x i) y,ir f (fun i=>0+o*x i) (fun i=>0+o*x i) y,ir f y (fun i=>0+o*x i) y,
   jG f (fun _=>0) x,jG f (fun _=>0) x,ir f x (fun _=>0) x,ir f y (fun _=>0) x,ez,ez,ez',ez',<- hs,<- hq,<- ho,<- hN]
  grind
 rw[e]at hpos;rw[<- hq,<- ho,<- hN];rcases Int.lt_or_le 0 o with h|h
 ·have:0<=o*N-q*q:=by
   rcases Int.lt_or_le (o*N-q*q) 0 with hl|hl
   ·have:=Int.mul_neg_of_pos_of_neg h hl;omega
   exact hl
  have:o*N=N*o:=Int.mul_comm _ _;omega
 have o0:o=0:=by omega
 have hy:=h2.1 (ho▸o0);have q0:q=0:=by
  rw[hq,hs];unfold BF;rw[bf n (G:=fun _=>0) (fun i hi=>by rw[hy i hi,Int.zero_mul]),eQ]
 rw[o0,q0];omega
end
end Go.Proofs.YtfgeomlagfomgaaGreatDoor
