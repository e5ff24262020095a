/-
  Part 18 of a proof (walks and plain facts).
-/
import Derived.Test.YtiollbhgpiiodaaGreatDoorQ16
import Derived.Lib.BitFns
set_option linter.all false
set_option maxRecDepth 100000
set_option maxHeartbeats 64000000
open Nat renaming le_refl → ac
open List renaming replicate → ae
open Nat renaming add_zero → ao
open List renaming getElem?_append_right → aq
open List renaming getElem?_eq_none → ar
open List renaming getElem?_map → az
namespace Go.Proofs.YtiollbhgpiiodaaGreatDoor
open Go.RowKit
theorem w6 {a s:Nat} (h:a*2^s<18446744073709551616) (hs:s<=64):IntKind.u64.wrap ((a:Int)*2^(min s IntKind.u64.bits))=((a*2^s:Nat):Int):=by
 rw[show min s IntKind.u64.bits=s from Nat.min_eq_left hs,IntKind.wrap_u64];have e:(a:Int)*2^s=((a*2^s:Nat):Int):=by simp
 rw[e];omega
theorem Fz {a s:Nat} (hs:s<=64):Int.fdiv (a:Int) (2^(min s IntKind.u64.bits))=((a/2^s:Nat):Int):=by
 rw[show min s IntKind.u64.bits=s from Nat.min_eq_left hs];have e:(2:Int)^s=((2^s:Nat):Int):=by simp
 rw[e,Int.fdiv_eq_ediv_of_nonneg _ (Int.natCast_nonneg _)]
 simp
theorem qO (m:List Nat) (s:Nat) (lm:Lmb m) (hs:s<32) (bm:m.length<=536870912):CallC Tryz.prog 169 [dw m,.raw (.int .i64 (s:Int))] ⟨[⟨56,1,lc fU (b6 (m.length+1) (natV m*2^s))⟩],.one (.sl 0 0 0 (m.length+1))⟩:=by
 have hp:=Cv hs;have ep:(m.length:Int)+1=((m.length+1:Nat):Int):=by omega
 refine aS Tryz.func169 rfl Tryz.ntmps169 (aT (k:=aX (aP ep @kR) (k:=bC (k:=aF (bC (k:=?_))))));refine aO (G:=iJ m.length) (fun g=>⟨(dw m::rN s::jk::jk::jk::.one (.sl 12 0 0 (m.length+1))::.raw (.int .u64 (wR m s g.i:Nat))::j4 (jk::jk::dw m::rN m.length::rN g.i::j16 (j4 (j4 (jk::[]))))),Hm [(12,[⟨56,1,lc fU (b6 g.i (natV m*2^s)++ae (m.length+1-g.i) 0)⟩])]⟩) (fun g=>m.length-g.i) ⟨0,by omega⟩ ?_ ?_
 ·refine aE ⟨?_,trivial⟩ ?_
  ·simp[be,Hm,b6]
  simp[wk,wR,natV]
 rintro⟨i,hi⟩;simp only;have hcl:=TI lm s i;by_cases hm:i<m.length
 ·obtain⟨a,ha⟩:=getElem?_of_lt hm;have ha':=cq lm ha;obtain⟨k1,k2⟩:=QE (s:=s) ha;have hlow:=TJ (m:=m) (s:=s) (i:=i+1) (j:=i) (by omega) (by omega);rw[<- k1]at hlow;have hmul:a*2^s<=4294967295*2147483648:=Nat.mul_le_mul (by omega) hp.1;have e1:=w6 (a:=a) (s:=s) (by omega) (by omega);have e2:=Ag (wR m s i) (a*2^s) (by omega) (by omega);rw[uh a (wR m s i) s hcl]at e2;have e3:IntKind.u32.wrap ((a*2^s+wR m s i:Nat):Int)=((natV m*2^s/4294967296^i%4294967296:Nat):Int):=by rw[tI,Nat.add_comm,hlow]
  have e4:Int.fdiv ((a*2^s+wR m s i:Nat):Int) (2^(min 32 IntKind.u64.bits))=((wR m s (i+1):Nat):Int):=by rw[Kc,Nat.add_comm,k2]
  have hz:m.length+1-i=(m.length-i)+1:=by omega
  have hg:=sU (b6 i (natV m*2^s)) (m.length-i);have hset:=p9 (b6 i (natV m*2^s)) (m.length-i) (natV m*2^s/4294967296^i%4294967296);rw[bS]at hg hset;rw[<- yr]at hset;rw[hz];obtain⟨c1,hc1⟩: ∃c1,c1=wR m s (i+1):=⟨_,rfl⟩;obtain⟨P1,hP1⟩: ∃P1,P1=b6 (i+1) (natV m*2^s):=⟨_,rfl⟩;rw[<- hc1]at e4;rw[<- hP1]at hset;clear k1 k2 hlow;generalize wR m s i=c0 at*
  generalize natV m*2^s/4294967296^i%4294967296=dg at*
  generalize b6 i (natV m*2^s)=P0 at*
  generalize hal:a*2^s=al at*
  refine aK (k:=bv rfl (aF (aG (aX ha (k:=aX (aP e1 e2) (k:=aX (aP e3 (aP hg (aP @dA hset))) (k:=gV e4 (k:=bW (k:=?_)))))))));refine⟨⟨i+1,by omega⟩,by simp only;omega,aE ⟨?_,trivial⟩ ?_⟩
  ·show _=[(⟨_,_,lc fU (b6 (i+1) (natV m*2^s)++ae (m.length+1-(i+1)) 0)⟩:OObj)];rw[show m.length+1-(i+1)=m.length-i by omega,<- hP1];rfl
  simp[wk,hc1]
 have hie:i=m.length:=by omega
 subst hie;have hc:wR m s m.length=natV m*2^s/4294967296^m.length:=by unfold wR;rw[List.take_length]
 have hd:wR m s m.length%4294967296=wR m s m.length:=Nat.mod_eq_of_lt (by omega);have e3:IntKind.u32.wrap ((wR m s m.length:Nat):Int)=((natV m*2^s/4294967296^m.length%4294967296:Nat):Int):=by rw[tI,hc]
 have hz:m.length+1-m.length=0+1:=by omega
 have hg:=sU (b6 m.length (natV m*2^s)) 0;have hset:=p9 (b6 m.length (natV m*2^s)) 0 (natV m*2^s/4294967296^m.length%4294967296);rw[bS]at hg hset;rw[<- yr,List.replicate_zero,List.append_nil]at hset;rw[hz];clear hc hd;generalize b6 (m.length+1) (natV m*2^s)=R at*
 generalize b6 m.length (natV m*2^s)=P0 at*
 generalize natV m*2^s/4294967296^m.length%4294967296=dg at*
 generalize wR m s m.length=c0 at*
 refine aK (k:=bE rfl (aX (aP e3 (aP hg (aP @dA hset))) (k:=bC (k:=?_))));refine bA ⟨.inr rfl,_,ci.refl _,?_⟩;refine⟨.one (.sl 12 0 0 (m.length+1)),12,?_,rfl,?_,rfl⟩
 ·simp(disch:=omega) only[kd,Tryz.results169]
 show _=[_];simp[renO,pQ]
def JJ (l:List Nat) (b i:Nat):List Nat:=l.take i++b6 (l.length-i) (natV (l.drop i)/b)
theorem Qs (l:List Nat) (b:Nat) {i:Nat} (h:i<=l.length):(JJ l b i).length=l.length:=by simp[JJ,bS];omega
theorem tJ (l:List Nat) (b:Nat) (ll:Lmb l) (hb:0<b) (hb':b<4294967296) (hl:0<l.length) (bl:l.length<=536870912):
  tf Tryz.prog 167 [.undef,.raw (.int .u32 (b:Int))] 0 0 l.length ⟨56,1,lc fU l⟩ ⟨56,1,lc fU (b6 l.length (natV l/b))⟩ (.raw (.int .u32 ((natV l%b:Nat):Int))):=by
 refine u9 Tryz.func167 rfl (by kernel_rfl) (by simp) hl (by simp[lc]) (eW _ _) rfl (by simp[lc,bS]) (eW _ _) rfl ?_;rw[Tryz.ntmps167];refine KE (k:=eg (k:=?_));have e0:(l.length:Int)-1=(l.length:Int)-1:=rfl;refine bI (eg (k:=?_));refine fL (G:=iJ l.length) (fun g=>⟨(.one (.sl 0 0 0 l.length)::.raw (.int .u32 (b:Int))::jk::jk::jk::.raw (.int .u64 ((natV (l.drop g.i)%b:Nat):Int))::.raw (.int .i64 ((g.i:Int)-1))::j16 (j4 (j4 (j4 (jk::[]))))),Hm [(0,[⟨56,1,lc fU (JJ l b g.i)⟩])]⟩) (fun g=>g.i) ⟨l.length,by omega⟩ ?_ ?_
 ·refine aE ⟨?_,trivial⟩ ?_
  ·simp[JJ,b6,famH]
  simp[wk,natV]
 rintro⟨i,hi⟩;simp only;by_cases h0:0<i
 ·obtain⟨j,rfl⟩: ∃j,i=j+1:=⟨i-1,by omega⟩;obtain⟨a,ha⟩:=getElem?_of_lt (l:=l) (k:=j) (by omega);have ha':=cq ll ha;have ej:((j+1:Nat):Int)-1=(j:Int):=by omega
  obtain⟨q1,q2⟩:=Qt (b:=b) rfl (show j<l.length by omega) ha ha' hb;have hlen:=Qs l b hi;have hget:(JJ l b (j+1))[j]?=some a:=by
   unfold JJ;rw[List.getElem?_append_left (by simp;omega),List.getElem?_take,if_pos (by omega),ha]
  change (JJ l b (j+1)).set j _=JJ l b j at q1
  have hr:=Nat.mod_lt (natV (l.drop (j+1))) hb;generalize natV (l.drop (j+1))%b=r at*
  obtain⟨r',hr'⟩: ∃r',r'=natV (l.drop j)%b:=⟨_,rfl⟩;rw[<- hr']at q2;have hcast:((natV (l.drop j):Nat):Int)%(b:Int)=(r':Int):=by rw[hr'];simp
  have e1:=w6 (a:=r) (s:=32) (by omega) (by omega);have e2:=Ag (r*2^32) a (by omega) (by omega);rw[pY r a 32 (by omega),show r*2^32+a=r*4294967296+a from rfl]at e2;have e3:Int.tdiv ((r*4294967296+a:Nat):Int) (b:Int)=(((r*4294967296+a)/b:Nat):Int):=(Int.ofNat_tdiv _ _).symm;have e4:Int.tmod ((r*4294967296+a:Nat):Int) (b:Int)=(r':Int):=by rw[<- q2];exact(Int.ofNat_tmod _ _).symm
  have hq:(r*4294967296+a)/b<4294967296:=by
   rw[Nat.div_lt_iff_lt_mul hb];have:(r+1)*4294967296<=b*4294967296:=Nat.mul_le_mul_right _ (by omega);omega
  generalize(r*4294967296+a)/b=qd at*
  have e5:IntKind.u64.wrap (qd:Int)=(qd:Int):=by rw[IntKind.wrap_u64];omega
  have e6:IntKind.u32.wrap (qd:Int)=(qd:Int):=by rw[IntKind.wrap_u32];omega
  generalize JJ l b (j+1)=S at*
  obtain⟨S',hS'⟩: ∃S',S'=JJ l b j:=⟨_,rfl⟩;rw[<- hS']at q1;refine bI (dJ ej (k:=gE rfl (dM (bI (eF (dJ (aP e1 (aP hget e2)) (k:=dJ (aP e3 (aP e5 (aP e6 (aP hget (aP @dA q1))))) (k:=qp e4 (k:=Bk (k:=?_))))))))));refine⟨⟨j,by omega⟩,by simp only;omega,aE ⟨?_,trivial⟩ ?_⟩
  ·show _=[(⟨_,_,lc fU (JJ l b j)⟩:OObj)];rw[<- hS'];rfl
  simp[wk,hcast]
 have hi0:i=0:=by omega
 subst hi0;have hr:natV l%b<4294967296:=Nat.lt_trans (Nat.mod_lt _ hb) hb';have hS:JJ l b 0=b6 l.length (natV l/b):=by simp[JJ]
 rw[hS,List.drop_zero];generalize natV l%b=r at*
 generalize b6 l.length (natV l/b)=S at*
 have e6:IntKind.u32.wrap (r:Int)=(r:Int):=by rw[IntKind.wrap_u32];omega
 refine bI (eg (k:=fz rfl (fK (dJ e6 (k:=?_)))));refine iX ⟨.inr rfl,_,ci.refl _,rfl,iw _,?_⟩;simp(disch:=omega) only[kd,Tryz.results167]
def C4 (l:List Nat) (s i:Nat):List Nat:=(b6 l.length (natV l/2^s)).take i++l.drop i
theorem QF (l:List Nat) (s:Nat) {i:Nat} (h:i<=l.length):(C4 l s i).length=l.length:=by simp[C4,bS];omega
theorem Hj {l:List Nat} {s i j a:Nat} (hi:i<=j) (h:l[j]?=some a):(C4 l s i)[j]?=some a:=by
 have hj:=(List.getElem?_eq_some_iff.1 h).1;unfold C4;have e:((b6 l.length (natV l/2^s)).take i).length=i:=by simp[bS];omega
 rw[aq (by omega),e,List.getElem?_drop,show i+(j-i)=j by omega,h]
theorem xj (l:List Nat) (s:Nat) (ll:Lmb l) (hs:s<32) (hl:0<l.length) (bl:l.length<=536870912):
  tf Tryz.prog 171 [.undef,.raw (.int .i64 (s:Int))] 0 0 l.length ⟨56,1,lc fU l⟩ ⟨56,1,lc fU (b6 l.length (natV l/2^s))⟩ (.tup []):=by
 refine u9 Tryz.func171 rfl (by kernel_rfl) (by simp) hl (by simp[lc]) (eW _ _) rfl (by simp[lc,bS]) (eW _ _) rfl ?_;rw[Tryz.ntmps171];refine KE (k:=?_);refine fL (G:=iJ l.length) (fun g=>⟨(.one (.sl 0 0 0 l.length)::rN s::j4 (jk::rN l.length::rN g.i::j16 (j4 (j4 (j4 (jk::[])))))),Hm [(0,[⟨56,1,lc fU (C4 l s g.i)⟩])]⟩) (fun g=>l.length-g.i) ⟨0,by omega⟩ ?_ ?_
 ·refine aE ⟨?_,trivial⟩ ?_
  ·simp[C4,famH]
  simp[wk]
 rintro⟨i,hi⟩;simp only;have hlen:=QF l s hi;by_cases hm:i<l.length
 ·obtain⟨a,ha⟩:=getElem?_of_lt hm;have ha':=cq ll ha;have hget:=Hj (s:=s) (ac i) ha;have hga:l.getD i 0=a:=by rw[List.getD_eq_getElem?_getD,ha];rfl
  have ei:(i:Int)+1=((i+1:Nat):Int):=by omega
  obtain⟨S',hS'⟩: ∃S',S'=C4 l s (i+1):=⟨_,rfl⟩;by_cases hm2:i+1<l.length
  ·obtain⟨b,hb⟩:=getElem?_of_lt hm2;have hb':=cq ll hb;have hget2:=Hj (s:=s) (show i<=i+1 by omega) hb;have hgb:l.getD (i+1) 0=b:=by rw[List.getD_eq_getElem?_getD,hb];rfl
   have hset:=Hk (v:=(b*4294967296+a)/2^s%4294967296) ll (show s<=32 by omega) rfl hm (by rw[hga,hgb,Nat.add_comm,Nat.mul_comm])
   change (C4 l s i).set i _=C4 l s (i+1)at hset
   rw[<- hS']at hset;have e1:=w6 (a:=b) (s:=32) (by omega) (by omega);have e2:=Ag a (b*2^32) (by omega) (by omega);rw[uh b a 32 (by omega),show b*2^32+a=b*4294967296+a from rfl]at e2;have e3:=Fz (a:=b*4294967296+a) (s:=s) (by omega);have e4:=tI ((b*4294967296+a)/2^s);generalize(b*4294967296+a)/2^s=qd at*
   generalize C4 l s i=S at*
   refine eg (k:=uS rfl (bI (eF (eg (k:=dJ hget (k:=bI (dJ ei (k:=gE rfl (qp (aP ei (aP hget2 (aP e1 e2))) (k:=qp (aP e3 (aP e4 (aP hget (aP @dA hset)))) (k:=Bk (k:=?_))))))))))));refine⟨⟨i+1,by omega⟩,by simp only;omega,aE ⟨?_,trivial⟩ ?_⟩
   ·show _=[(⟨_,_,lc fU (C4 l s (i+1))⟩:OObj)];rw[<- hS'];rfl
   simp[wk]
  have hgb:l.getD (i+1) 0=0:=by rw[List.getD_eq_getElem?_getD,ar (by omega)];rfl
  have hset:=Hk (v:=a/2^s%4294967296) ll (show s<=32 by omega) rfl hm (by rw[hga,hgb];rfl)
  change (C4 l s i).set i _=C4 l s (i+1)at hset
  rw[<- hS']at hset;have e3:=Fz (a:=a) (s:=s) (by omega);have e4:=tI (a/2^s);generalize a/2^s=qd at*
  generalize C4 l s i=S at*
  refine eg (k:=uS rfl (bI (eF (eg (k:=dJ hget (k:=bI (dJ ei (k:=fz rfl (dM (qp (aP e3 (aP e4 (aP hget (aP @dA hset)))) (k:=Bk (k:=?_))))))))))));refine⟨⟨i+1,by omega⟩,by simp only;omega,aE ⟨?_,trivial⟩ ?_⟩
  ·show _=[(⟨_,_,lc fU (C4 l s (i+1))⟩:OObj)];rw[<- hS'];rfl
  simp[wk]
 have hie:i=l.length:=by omega
 subst hie;have hS:C4 l s l.length=b6 l.length (natV l/2^s):=by
  unfold C4;rw[List.drop_length,List.append_nil,List.take_of_length_le (by rw[bS];exact ac _)]
 rw[hS];generalize b6 l.length (natV l/2^s)=S at*
 refine eg (k:=uR rfl ?_);refine⟨.inl rfl,_,ci.refl _,rfl,iw _,?_⟩;simp(disch:=omega) only[kd,Tryz.results171]
section
theorem Jf {l:List Nat} {n x y:Nat} (hn:l.length=n+2) (hx:l[n+1]?=some x) (hy:l[n]?=some y):natV l=(x*4294967296+y)*4294967296^n+natV (l.take n):=by
 have h1:=bG hx;have h2:=bG hy;rw[List.take_of_length_le (by omega)]at h1;rw[h1,h2,Nat.pow_succ];grind
theorem Jg {l:List Nat} {n x y z:Nat} (hn:l.length=n+3) (hx:l[n+2]?=some x) (hy:l[n+1]?=some y) (hz:l[n]?=some z):natV l=((x*4294967296+y)*4294967296+z)*4294967296^n+natV (l.take n):=by
 have h1:=bG hx;have h2:=bG hy;have h3:=bG hz;rw[List.take_of_length_le (by omega)]at h1;rw[h1,h2,h3,Nat.pow_succ,Nat.pow_succ];grind
structure w9 (u v:List Nat) (n v1 v2 u2 u1 u0:Nat):Prop where
 lu:Lmb u
 lv:Lmb v
 nu:u.length=n+3
 nv:v.length=n+2
 hv1:v[n+1]?=some v1
 hv2:v[n]?=some v2
 hu2:u[n+2]?=some u2
 hu1:u[n+1]?=some u1
 hu0:u[n]?=some u0
 top:2147483648<=v1
 lt:natV u<natV v*4294967296
section
variable {u v:List Nat} {n v1 v2 u2 u1 u0:Nat} (h:w9 u v n v1 v2 u2 u1 u0)
include h
theorem w9.vpos:0<natV v:=by
 have:=h.lt;by_cases hv:natV v=0
 ·rw[hv]at this;omega
 omega
theorem w9.bv1:v1<4294967296:=cq h.lv h.hv1
theorem w9.bv2:v2<4294967296:=cq h.lv h.hv2
theorem w9.bu2:u2<4294967296:=cq h.lu h.hu2
theorem w9.bu1:u1<4294967296:=cq h.lu h.hu1
theorem w9.bu0:u0<4294967296:=cq h.lu h.hu0
theorem w9.eV:natV v=(v1*4294967296+v2)*4294967296^n+natV (v.take n):=Jf h.nv h.hv1 h.hv2
theorem w9.eU:natV u=((u2*4294967296+u1)*4294967296+u0)*4294967296^n+natV (u.take n):=Jg h.nu h.hu2 h.hu1 h.hu0
theorem w9.vl:natV (v.take n)<4294967296^n:=fG h.lv n
theorem w9.ul:natV (u.take n)<4294967296^n:=fG h.lu n
theorem w9.q_lt:natV u/natV v<4294967296:=by
 rw[Nat.div_lt_iff_lt_mul h.vpos,Nat.mul_comm];exact h.lt
theorem w9.u2_le : u2 <= v1 := by
  have e1 := h.eV;have e2 := h.eU;have h1 := h.lt;have h2 := h.vl;have h3 := h.bv2;have hL : 0 < 4294967296 ^ n := Nat.pow_pos (by omega);generalize 4294967296 ^ n = L at *
  by_cases hc : u2 <= v1
  · exact hc
  · exfalso
    have h4 : (v1 + 1) * 4294967296 * 4294967296 * L <= natV u := by
      rw [e2];have : (v1 + 1) * 4294967296 * 4294967296 * L <= ((u2 * 4294967296 + u1) * 4294967296 + u0) * L := Nat.mul_le_mul_right _ (Nat.le_trans (Nat.mul_le_mul_right _ (Nat.le_trans (Nat.mul_le_mul_right _ (show v1 + 1 <= u2 by omega)) (Nat.le_add_right _ _))) (Nat.le_add_right _ _));exact Nat.le_trans this (Nat.le_add_right _ _)
    have h5 : natV v * 4294967296 <= (v1 + 1) * 4294967296 * 4294967296 * L := by
      have h6 : natV v <= (v1 + 1) * 4294967296 * L := by
        rw [e1];have : (v1 * 4294967296 + v2) * L + L <= (v1 + 1) * 4294967296 * L := by
          have := Nat.mul_le_mul_right L (show v1 * 4294967296 + v2 + 1 <= (v1 + 1) * 4294967296 by omega);rw [Nat.add_mul (v1 * 4294967296 + v2) 1 L, Nat.one_mul] at this;exact this
        omega
      calc natV v * 4294967296 <= (v1 + 1) * 4294967296 * L * 4294967296 := Nat.mul_le_mul_right _ h6
        _ = _ := by grind
    omega
structure Uq (u v:List Nat) (v1 high:Nat) where
 g:Nat
 r:Nat
 eq:g*v1+r=high
 ge:natV u/natV v<=g
 le:g<=4294967297
 hr:r<4294967296
omit h in
theorem IB {a b c:Nat} (hb:0<b) (h:a<(c+1)*b):a/b<=c:=by
 have:=(Nat.div_lt_iff_lt_mul hb).2 h;omega
theorem w9.first: ∃k:Uq u v v1 (u2*4294967296+u1),k.g=(u2*4294967296+u1)/v1/\k.r=(u2*4294967296+u1)%v1:=by
 have ht:=h.top;have hb1:=h.bv1;have hm:=Nat.mod_lt (u2*4294967296+u1) (show 0<v1 by omega);have hd:=Nat.div_add_mod (u2*4294967296+u1) v1;have hle:=h.u2_le;have hu1:=h.bu1;have hL:0<4294967296^n:=Nat.pow_pos (by omega);refine⟨⟨(u2*4294967296+u1)/v1,(u2*4294967296+u1)%v1,by rw[Nat.mul_comm];exact hd,?_,?_,by omega⟩,rfl,rfl⟩
 ·rw[Nat.le_div_iff_mul_le (by omega)];have e1:=h.eV;have e2:=h.eU;have h1:=h.ul;have h2:=h.bu0;refine UT (U:=natV u) (V:=natV v) (L:=4294967296^n) ?_ ?_ (Nat.div_mul_le_self _ _) hL
  ·rw[e1];have:v1*4294967296*4294967296^n<=(v1*4294967296+v2)*4294967296^n:=Nat.mul_le_mul_right _ (by omega);omega
  rw[e2];have:((u2*4294967296+u1)*4294967296+u0)*4294967296^n+4294967296^n<=(u2*4294967296+u1+1)*4294967296*4294967296^n:=by
   have:=Nat.mul_le_mul_right (4294967296^n) (show(u2*4294967296+u1)*4294967296+u0+1<=(u2*4294967296+u1+1)*4294967296 by omega);rw[Nat.add_mul ((u2*4294967296+u1)*4294967296+u0) 1,Nat.one_mul]at this;exact this
  omega
 refine IB (by omega) ?_;have:u2*4294967296<=v1*4294967296:=Nat.mul_le_mul_right _ hle;have e:(4294967297+1)*v1=v1*4294967296+2*v1:=by omega
 omega
theorem w9.down (k:Uq u v v1 (u2*4294967296+u1)) (hc:4294967296<=k.g\/k.r*4294967296+u0<k.g*v2):natV u/natV v<k.g:=by
 rcases hc with hc|hc
 ·have:=h.q_lt;omega
 have e1:=h.eV;have e2:=h.eU;have h1:=h.ul;refine US (U:=natV u) (V:=natV v) (L:=4294967296^n) (high:=u2*4294967296+u1) ?_ ?_ (Nat.div_mul_le_self _ _) k.eq hc
 ·rw[e1];omega
 rw[e2,Nat.add_mul ((u2*4294967296+u1)*4294967296+u0) 1,Nat.one_mul];omega
theorem w9.near {g r:Nat} (heq:g*v1+r=u2*4294967296+u1) (hB:g<=4294967296) (hc:g*v2<=r*4294967296+u0):g<=natV u/natV v+1:=by
 have e1:=h.eV;have e2:=h.eU;have ht:=h.top;refine PB (U:=natV u) (t3:=(u2*4294967296+u1)*4294967296+u0) e1 h.vl ?_ ?_ ?_ hB (by omega)
 ·rw[e2];omega
 ·have:=Nat.lt_div_mul_add (a:=natV u) h.vpos;rw[Nat.add_mul,Nat.one_mul];omega
 rw[<- heq];have e:g*(v1*4294967296+v2)=g*v1*4294967296+g*v2:=by grind
 have e':(g*v1+r)*4294967296=g*v1*4294967296+r*4294967296:=by grind
 omega
theorem w9.vlt:natV v<=4294967296^(n+2):=Nat.le_of_lt (by have:=fF h.lv;rw[h.nv]at this;exact this)
theorem w9.right {g:Nat} (m:Or u v g) (hi:m.i=n+2) (hge:natV u/natV v<=g) (hno:m.c+m.b<=u2):g=natV u/natV v/\m.us++[u2-(m.c+m.b)]=b6 (n+3) (natV u%natV v):=by
 have hv:=m.val;rw[hi,List.take_of_length_le (by rw[h.nv];exact ac _)]at hv;have hU:=bG h.hu2;rw[List.take_of_length_le (by rw[h.nu];exact ac _)]at hU;have hml:m.us.length=n+2:=by rw[m.len,hi]
 have e:natV (m.us++[u2-(m.c+m.b)])+g*natV v=natV u:=by
  rw[oT,hml,hU];have:(u2-(m.c+m.b))*4294967296^(n+2)+(m.c+m.b)*4294967296^(n+2)=u2*4294967296^(n+2):=by
   rw[<- Nat.add_mul,Nat.sub_add_cancel hno]
  omega
 obtain⟨q1,q2⟩:=LV rfl hge e h.vpos;refine⟨q1,BH (nJ m.lmb ?_) (by simp[hml]) q2⟩;have:=h.bu2;omega
theorem w9.left {g t:Nat} (m:Or u v g) (hi:m.i=n+2) (hle:g<=natV u/natV v+1) (hyes:u2<m.c+m.b) (ht:t=u2+4294967296-(m.c+m.b)) (a:Oy (m.us++[t]) v) (hai:a.i=n+2):
  g=natV u/natV v+1/\a.us++[(t+a.c)%4294967296]=b6 (n+3) (natV u%natV v):=by
 have hv:=m.val;rw[hi,List.take_of_length_le (by rw[h.nv];exact ac _)]at hv;have hU:=bG h.hu2;rw[List.take_of_length_le (by rw[h.nu];exact ac _)]at hU;have hml:m.us.length=n+2:=by rw[m.len,hi]
 have hbu:=h.bu2;have hmc:=m.hc;have hmb:=m.hb;have hav:=a.val;have e0:(m.us++[t]).take (n+2)=m.us:=by rw[List.take_append_of_le_length (by omega),List.take_of_length_le (by omega)]
 rw[hai,e0,List.take_of_length_le (by rw[h.nv];exact ac _)]at hav;have hW:=fF a.lmb;rw[a.len,hai]at hW;have e:natV m.us+t*4294967296^(n+2)+g*natV v=natV u+4294967296*4294967296^(n+2):=by
  rw[hU];have:t*4294967296^(n+2)+(m.c+m.b)*4294967296^(n+2)=(u2+4294967296)*4294967296^(n+2):=by
   rw[<- Nat.add_mul,ht,Nat.sub_add_cancel (by omega)]
  rw[Nat.add_mul u2]at this;omega
 have hlt:natV u<g*natV v:=by
  have h1:=fF m.lmb;rw[hml]at h1;have h2:(u2+1)*4294967296^(n+2)<=(m.c+m.b)*4294967296^(n+2):=Nat.mul_le_mul_right _ (by omega);rw[Nat.add_mul u2 1,Nat.one_mul]at h2;omega
 obtain⟨q1,q2,q3⟩:=PA (T:=natV m.us) (t:=t) (c:=a.c) (W:=natV a.us) (Bn:=4294967296^(n+2)) rfl hle e hlt h.vpos h.vlt hW rfl hav a.hc (by omega);refine⟨q1,BH (nJ a.lmb (Nat.mod_lt _ (by omega))) (by simp[a.len,hai]) ?_⟩;rw[oT,q2,q3];simp
end
end
theorem mE {pre u post:List Nat} {off i x:Nat} (hp:pre.length=off) (h:u[i]?=some x):(pre++(u++post))[off+i]?=some x:=by
 have hi:=(List.getElem?_eq_some_iff.1 h).1;rw[aq (by omega),hp,Nat.add_sub_cancel_left,List.getElem?_append_left hi,h]
theorem ut {pre u post:List Nat} {off i:Nat} (v:Nat) (hp:pre.length=off) (hi:i<u.length):(pre++(u++post)).set (off+i) v=pre++(u.set i v++post):=by
 rw[List.set_append_right _ _ (by omega),hp,Nat.add_sub_cancel_left,List.set_append_left _ _ hi]
theorem uu {us u:List Nat} {i:Nat} (v:Nat) (hus:us.length=i) (hi:i<u.length):(us++u.drop i).set i v=(us++[v])++u.drop (i+1):=by
 have hd:u.drop i=u[i]::u.drop (i+1):=List.drop_eq_getElem_cons hi;rw[hd,List.set_append_right _ _ (by omega),hus,Nat.sub_self,List.set_cons_zero,List.append_assoc];rfl
theorem At {us u:List Nat} {i x:Nat} (hus:us.length=i) (hx:u[i]?=some x):(us++u.drop i)[i]?=some x:=by
 rw[aq (by omega),hus,Nat.sub_self,List.getElem?_drop,ao,hx]
theorem Av {us u:List Nat} {i:Nat} (hus:us.length=i) (hi:i<=u.length):(us++u.drop i).length=u.length:=by
 rw[List.length_append,hus,List.length_drop];omega
theorem Kx {P:Program} {k:Nat} {c z:Code} {Q:Exit->AS->Prop} {s:AS} (S:Nat->AS) (p:Nat->Prop) (h1:eR P k c (iF (fun s'=> ∃g,p g/\ci s' (S g)) Q) s) (h2: ∀g,p g->eR P k z Q (S g)):eR P k c (iF (eR P k z Q) Q) s:=h1.mono fun e s' h=>by
 cases e with
 |normal=>obtain⟨g,hp,hw⟩:=h;exact(h2 g hp).weak hw
 |_=>exact h
theorem Wb (y lo b:Nat) (hy:y<4294967296) (hlo:lo<4294967296) (hb:b<=1):IntKind.u32.wrap (IntKind.u64.wrap (IntKind.u64.wrap ((y:Int)-(lo:Int))-(b:Int)))=(((y+8589934592-(lo+b))%4294967296:Nat):Int)/\
  Int.fdiv (IntKind.u64.wrap (IntKind.u64.wrap ((y:Int)-(lo:Int))-(b:Int))) (2^(min 63 IntKind.u64.bits))=(((if y<lo+b then 1 else 0):Nat):Int):=by
 constructor
 ·rw[IntKind.wrap_u32,IntKind.wrap_u64,IntKind.wrap_u64];omega
 rw[IntKind.wrap_u64,IntKind.wrap_u64];show Int.fdiv _ 9223372036854775808=_;rw[Int.fdiv_eq_ediv_of_nonneg _ (by omega)];split<;>omega
theorem xh (pre u post v:List Nat) (off n v1 v2 u2 u1 u0:Nat) (hp:pre.length=off) (H:w9 u v n v1 v2 u2 u1 u0) (bR:(pre++(u++post)).length<=536870912):
  tf Tryz.prog 170 [.undef,dw v] 0 off (n+3) ⟨56,1,lc fU (pre++(u++post))⟩ ⟨56,1,lc fU (pre++(b6 (n+3) (natV u%natV v)++post))⟩ (.raw (.int .u32 ((natV u/natV v:Nat):Int))):=by
 have nu:=H.nu;have nv:=H.nv;have hv1:=H.hv1;have hv2:=H.hv2;have bv1:=H.bv1;have bv2:=H.bv2;have bu2:=H.bu2;have bu1:=H.bu1;have bu0:=H.bu0;have top:=H.top;have hqlt:=H.q_lt;have hRl:(pre++(u++post)).length=off+(n+3)+post.length:=by simp[hp,nu];omega
 have gu2:=mE (post:=post) hp H.hu2;have gu1:=mE (post:=post) hp H.hu1;have gu0:=mE (post:=post) hp H.hu0;refine u9 Tryz.func170 rfl (by kernel_rfl) (by simp) (by omega) (by simp[lc]at hRl⊢;omega) (eW _ _) rfl (by simp[lc,bS,nu]) (eW _ _) rfl ?_;rw[Tryz.ntmps170];have e2:((n+2:Nat):Int)-1=((n+1:Nat):Int):=by omega
 have e3:((n+2:Nat):Int)-2=((n:Nat):Int):=by omega
 refine KE (k:=dJ nv (k:=?_));have a1:=w6 (a:=u2) (s:=32) (by omega) (by omega);have a2:=Ag (u2*2^32) u1 (by omega) (by omega);rw[pY u2 u1 32 (by omega),show u2*2^32+u1=u2*4294967296+u1 from rfl]at a2;obtain⟨high,hhigh⟩: ∃high,high=u2*4294967296+u1:=⟨_,rfl⟩;rw[<- hhigh]at a2;obtain⟨k0,hk1,hk2⟩: ∃k:Uq u v v1 high,k.g=high/v1/\k.r=high%v1:=by rw[hhigh];exact H.first
 have hk3:=k0.le;have a3:Int.tdiv (high:Int) (v1:Int)=(k0.g:Int):=by rw[hk1];exact(Int.ofNat_tdiv _ _).symm
 have a4:Int.tmod (high:Int) (v1:Int)=(k0.r:Int):=by rw[hk2];exact(Int.ofNat_tmod _ _).symm
 generalize hR:pre++(u++post)=R at*
 refine rV (aP @famH.eq_1 (aP gu2 (aP a1 (aP e2 (aP gu1 a2))))) (k:=rV (aP e2 (aP hv1 (aP a3 a4))) (k:=?_));refine bI (Kx (fun g=>⟨(.one (.sl 0 0 off (n+3))::dw v::jk::jk::jk::.raw (.int .i64 ((n+2:Nat):Int))::jk::.raw (.int .u64 (g:Int))::j16 (j16 (j16 (j16 (j16 (j16 (j16 (j16 (j16 (j16 (jk::jk::jk::[]))))))))))),Hm [(0,[⟨56,1,lc fU R⟩])]⟩) (fun g=>natV u/natV v<=g/\g<=natV u/natV v+1/\g<=4294967296) ?_ ?_)
 ·have H2:=H;subst hhigh;refine fL (G:=Uq u v v1 (u2*4294967296+u1)) (fun k=>⟨(.one (.sl 0 0 off (n+3))::dw v::jk::jk::jk::.raw (.int .i64 ((n+2:Nat):Int))::jk::.raw (.int .u64 (k.g:Int))::.raw (.int .u64 (k.r:Int))::j16 (j16 (j16 (j16 (j16 (j16 (j16 (j16 (j16 (j16 (jk::jk::[]))))))))))),Hm [(0,[⟨56,1,lc fU R⟩])]⟩) (fun k=>k.g) k0 ?_ ?_
  ·refine aE ⟨rfl,trivial⟩ ?_;simp[wk]
  intro k;have kg:=k.le;have kr:=k.hr;have keq:=k.eq;have kge:=k.ge;have e5:=Kc k.g
  -- the guess goes down
  have down:(4294967296<=k.g\/k.r*4294967296+u0<k.g*v2)->natV u/natV v<k.g:=H2.down k;have next:natV u/natV v<k.g->k.r+v1<4294967296-> ∃k':Uq u v v1 (u2*4294967296+u1),k'.g=k.g-1/\k'.r=k.r+v1:=fun h1 h2=>by
   refine⟨⟨k.g-1,k.r+v1,?_,by omega,by omega,h2⟩,rfl,rfl⟩;refine Eq.trans ?_ keq;have:k.g*v1=(k.g-1)*v1+v1:=by
    obtain⟨m,hm⟩: ∃m,k.g=m+1:=⟨k.g-1,(Nat.succ_pred_eq_of_pos (Nat.lt_of_le_of_lt (Nat.zero_le _) h1)).symm⟩;rw[hm,Nat.add_sub_cancel,Nat.add_mul,Nat.one_mul]
   omega
  have stop:natV u/natV v<k.g->4294967296<=k.r+v1->natV u/natV v<=k.g-1/\k.g-1<=natV u/natV v+1/\k.g-1<=4294967296:=fun h1 h2=>by
   refine⟨by omega,?_,by omega⟩;refine H2.near (r:=k.r+v1) ?_ (by omega) ?_
   ·refine Eq.trans ?_ keq;have:k.g*v1=(k.g-1)*v1+v1:=by
     obtain⟨m,hm⟩: ∃m,k.g=m+1:=⟨k.g-1,(Nat.succ_pred_eq_of_pos (Nat.lt_of_le_of_lt (Nat.zero_le _) h1)).symm⟩;rw[hm,Nat.add_sub_cancel,Nat.add_mul,Nat.one_mul]
    omega
   have h3:(k.g-1)*v2<=4294967296*4294967295:=Nat.mul_le_mul (by omega) (by omega);have h4:4294967296*4294967296<=(k.r+v1)*4294967296:=Nat.mul_le_mul_right _ h2;omega
  have e7:(k.g:Int)-1=((k.g-1:Nat):Int)\/k.g=0:=by omega
  have e8:(k.r:Int)+(v1:Int)=((k.r+v1:Nat):Int):=by omega
  have e9:=Kc (k.r+v1);by_cases hbig:4294967296<=k.g
  ·have hd:=down (.inl hbig)
   replace e7:=e7.resolve_right (by omega)
   refine bI (rV e5 (k:=gE rfl (dM (eF (dJ e7 (k:=dJ (aP e2 (aP hv1 e8)) (k:=?_)))))));by_cases hover:4294967296<=k.r+v1
   ·refine dJ e9 (k:=gE rfl (fK ?_));refine⟨k.g-1,stop hd hover,aE ⟨rfl,trivial⟩ ?_⟩;simp[wk]
   obtain⟨k',q1,q2⟩:=next hd (by omega);refine dJ e9 (k:=fz rfl (dM ?_));refine⟨k',by omega,aE ⟨rfl,trivial⟩ ?_⟩;simp[wk,q1,q2]
  have hmul:k.g*v2<=4294967295*4294967295:=Nat.mul_le_mul (by omega) (by omega);have e10:(k.g:Int)*(v2:Int)=((k.g*v2:Nat):Int):=by simp
  have e11:=w6 (a:=k.r) (s:=32) (by omega) (by omega);have e12:=Ag (k.r*2^32) u0 (by omega) (by omega);rw[pY k.r u0 32 (by omega),show k.r*2^32+u0=k.r*4294967296+u0 from rfl]at e12;by_cases hc:k.r*4294967296+u0<k.g*v2
  ·have hd:=down (.inr hc)
   replace e7:=e7.resolve_right (fun e=>by rw[e]at hd;exact absurd hd (Nat.not_lt_zero _))
   generalize k.g*v2=gv at*
   refine bI (rV (aP e5 (aP e3 (aP hv2 (aP e10 (aP e11 (aP gu0 e12)))))) (k:=gE rfl (dM (eF (dJ e7 (k:=dJ (aP e2 (aP hv1 e8)) (k:=?_)))))));by_cases hover:4294967296<=k.r+v1
   ·refine dJ e9 (k:=gE rfl (fK ?_));refine⟨k.g-1,stop hd hover,aE ⟨rfl,trivial⟩ ?_⟩;simp[wk]
   obtain⟨k',q1,q2⟩:=next hd (by omega);refine dJ e9 (k:=fz rfl (dM ?_));refine⟨k',by omega,aE ⟨rfl,trivial⟩ ?_⟩;simp[wk,q1,q2]
  have hnear:=H2.near keq (by omega) (Nat.le_of_not_lt hc);generalize k.g*v2=gv at*
  refine bI (rV (aP e5 (aP e3 (aP hv2 (aP e10 (aP e11 (aP gu0 e12)))))) (k:=fz rfl (fK ?_)));refine⟨k.g,⟨kge,hnear,by omega⟩,aE ⟨rfl,trivial⟩ ?_⟩;simp[wk]
 rintro g ⟨hg1,hg2,hg3⟩;subst hR;clear gu2 gu1 gu0 a1 a2 a3 a4 hk1 hk2 hk3 k0;refine eg (k:=bI (eg (k:=?_)));refine fL (G:=Or u v g) (fun m=>⟨(.one (.sl 0 0 off (n+3))::dw v::jk::jk::jk::.raw (.int .i64 ((n+2:Nat):Int))::jk::.raw (.int .u64 (g:Int))::jk::.raw (.int .u64 (m.c:Int))::.raw (.int .u64 (m.b:Int))::j16 (j16 (j16 (j16 (j4 (jk::jk::jk::.raw (.int .i64 ((n+2:Nat):Int))::rN m.i::j16 (j16 (j16 (j16 (j16 (j4 (jk::jk::jk::[])))))))))))),Hm [(0,[⟨56,1,lc fU (pre++((m.us++u.drop m.i)++post))⟩])]⟩) (fun m=>n+2-m.i) (Or.start u v g) ?_ ?_
 ·refine aE ⟨?_,trivial⟩ ?_
  ·simp[Hm,Or.start]
  simp[wk,Or.start]
 intro m;have hmi:=m.hi;have hmc:=m.hc;have hmb:=m.hb;have hml:=m.len;by_cases hlt:m.i<n+2
 ·obtain⟨x,hx⟩:=getElem?_of_lt (l:=v) (k:=m.i) (by omega);obtain⟨y,hy⟩:=getElem?_of_lt (l:=u) (k:=m.i) (by omega);have hx':=cq H.lv hx;have hy':=cq H.lu hy;obtain⟨c1,c2⟩:=Cm hg3 hx' hmc;have hgx:g*x<=4294967296*4294967295:=Nat.mul_le_mul hg3 (by omega);have e4:(g:Int)*(x:Int)=((g*x:Nat):Int):=by simp
  have e5:(m.c:Int)+((g*x:Nat):Int)=((m.c+g*x:Nat):Int):=by simp
  have hseg:=At hml hy;have hsl:=Av (u:=u) hml (by omega);have hget:=mE (post:=post) hp hseg;have hlo:(m.c+g*x)%4294967296<4294967296:=Nat.mod_lt _ (by omega);obtain⟨b1,b2⟩:=Wb y ((m.c+g*x)%4294967296) m.b hy' hlo hmb;obtain⟨m',q1,q2,q3,q4⟩:=PO m (l:=(y+8589934592-((m.c+g*x)%4294967296+m.b))%4294967296) (b':=if y<(m.c+g*x)%4294967296+m.b then 1 else 0) hg3 hx hy H.lv (Nat.mod_lt _ (by omega)) (by split<;>omega) (by split<;>omega);have hset:=ut (post:=post) ((y+8589934592-((m.c+g*x)%4294967296+m.b))%4294967296) hp (show m.i<(m.us++u.drop m.i).length by omega);rw[uu _ hml (by omega)]at hset;have e6:=tI (m.c+g*x);have e7:=Kc (m.c+g*x);have hrl:(pre++((m.us++u.drop m.i)++post)).length=off+(n+3)+post.length:=by simp only[List.length_append]at hRl hsl⊢;omega
  generalize(m.c+g*x)%4294967296=lo at*
  generalize(m.c+g*x)/4294967296=hi' at*
  generalize g*x=gx at*
  generalize(if y<lo+m.b then 1 else 0:Nat)=nb at*
  generalize(y+8589934592-(lo+m.b))%4294967296=nl at*
  generalize hRR:pre++((m.us++u.drop m.i)++post)=RR at*
  refine eg (k:=uS rfl (bI (eF (eg (k:=dJ (aP hx (aP e4 e5)) (k:=dJ (aP hget e6) (k:=dJ (aP b1 (aP hget (aP @dA hset))) (k:=dJ e7 (k:=qp b2 (k:=Bk (k:=?_)))))))))));refine⟨m',by omega,aE ⟨?_,trivial⟩ ?_⟩
  ·rw[q1,q2];rfl
  simp[wk,q1,q3,q4]
 have hie:m.i=n+2:=by omega
 have hseg:(m.us++u.drop m.i)[n+2]?=some u2:=by
  have:=At hml (show u[m.i]?=some u2 by rw[hie];exact H.hu2);rwa[hie]at this⊢
 have hsl:=Av (u:=u) hml (by omega);have hget:=mE (post:=post) hp hseg;have hset:=fun t=>ut (post:=post) t hp (show n+2<(m.us++u.drop m.i).length by omega)
 have hse: ∀t,(m.us++u.drop m.i).set (n+2) t=m.us++[t]:=fun t=>by
  have:=uu (u:=u) t hml (by omega);rw[List.drop_eq_nil_iff.2 (show u.length<=m.i+1 by omega),List.append_nil,hie]at this;rw[hie];exact this
 simp only[hse]at hset;obtain⟨b1,b2⟩:=Wb u2 m.c m.b bu2 hmc hmb;have hrl:(pre++((m.us++u.drop m.i)++post)).length=off+(n+3)+post.length:=by simp only[List.length_append]at hRl hsl⊢;omega
 by_cases hno:m.c+m.b<=u2
 ·have b3:(u2:Int)-(m.c:Int)-(m.b:Int)=((u2-(m.c+m.b):Nat):Int):=by omega
  have b4:Int.fdiv ((u2-(m.c+m.b):Nat):Int) (2^(min 63 IntKind.u64.bits))=0:=by
   rw[Fz (by omega)];have:(u2-(m.c+m.b))/2^63=0:=Nat.div_eq_of_lt (by omega);rw[this];rfl
  have hnl:u2-(m.c+m.b)<4294967296:=by omega
  obtain⟨q1,q2⟩:=H.right m hie hg1 hno;have hs:=hset (u2-(m.c+m.b));rw[q2]at hs;have e7:IntKind.u32.wrap (g:Int)=((natV u/natV v:Nat):Int):=by rw[tI,q1];omega
  generalize u2-(m.c+m.b)=nl at*
  generalize hRR:pre++((m.us++u.drop m.i)++post)=RR at*
  refine eg (k:=uR rfl (dJ (aP hget b3) (k:=dJ (aP @Hx (aP hget (aP @dA hs))) (k:=bI (dJ b4 (k:=gE rfl (dJ e7 (k:=?_))))))));refine iX ⟨.inr rfl,⟨(.one (.sl 0 0 off (n+3))::jk::jk::jk::.raw (.int .u32 ((natV u/natV v:Nat):Int))::j16 (j16 (j16 (j16 (j16 (j16 (j16 (j16 (j16 (j16 (j4 (jk::jk::[])))))))))))),Hm [(0,[⟨56,1,lc fU (pre++(b6 (n+3) (natV u%natV v)++post))⟩])]⟩,aE ⟨rfl,trivial⟩ (by simp[wk]),rfl,iw _,?_⟩;simp(disch:=omega) only[kd,Tryz.results170]
 rw[if_pos (by omega)]at b2;obtain⟨t,ht⟩: ∃t,t=u2+4294967296-(m.c+m.b):=⟨_,rfl⟩;have ht4:t<4294967296:=by omega
 rw[show(u2+8589934592-(m.c+m.b))%4294967296=t by omega]at b1;have hs:=hset t;have lu':Lmb (m.us++[t]):=nJ m.lmb ht4;have nu':(m.us++[t]).length=n+3:=by rw[List.length_append,hml,hie];rfl
 have hleft:=fun a hai=>H.left m hie hg2 (by omega) ht a hai
 have htop:(m.us++[t])[n+2]?=some t:=by rw[aq (by omega),hml,hie,Nat.sub_self];rfl
 clear hset hse hno ht;generalize hRR:pre++((m.us++u.drop m.i)++post)=RR at*
 refine eg (k:=uR rfl (dJ hget (k:=dJ (aP b1 (aP hget (aP @dA hs))) (k:=bI (dJ b2 (k:=fz rfl (dM (eg (k:=bI (eg (k:=?_)))))))))));refine fL (G:=Oy (m.us++[t]) v) (fun a=>⟨(.one (.sl 0 0 off (n+3))::dw v::jk::jk::jk::.raw (.int .i64 ((n+2:Nat):Int))::jk::.raw (.int .u64 (g:Int))::jk::.raw (.int .u64 (a.c:Int))::j16 (j16 (j16 (j16 (j16 (j16 (j16 (j4 (j4 (j4 (jk::.raw (.int .i64 ((n+2:Nat):Int))::rN a.i::j16 (j16 (jk::jk::[]))))))))))))),Hm [(0,[⟨56,1,lc fU (pre++((a.us++(m.us++[t]).drop a.i)++post))⟩])]⟩) (fun a=>n+2-a.i) (Oy.start _ _) ?_ ?_
 ·refine aE ⟨?_,trivial⟩ ?_
  ·simp[Hm,Oy.start,be]
  simp[wk,Oy.start]
 intro a;have hai:=a.hi;have hac:=a.hc;have hal:=a.len;generalize m.us++[t]=U' at*
 have hsl2:=Av (u:=U') hal (by omega);have hrl2:(pre++((a.us++U'.drop a.i)++post)).length=off+(n+3)+post.length:=by simp only[List.length_append]at hsl2⊢;omega
 by_cases hlt2:a.i<n+2
 ·obtain⟨x,hx⟩:=getElem?_of_lt (l:=v) (k:=a.i) (by omega);obtain⟨y,hy⟩:=getElem?_of_lt (l:=U') (k:=a.i) (by omega);have hx':=cq H.lv hx;have hy':=cq lu' hy;have hget2:=mE (post:=post) hp (At hal hy);have hset2:=ut (post:=post) ((a.c+(y+x))%4294967296) hp (show a.i<(a.us++U'.drop a.i).length by omega);rw[uu _ hal (by omega)]at hset2;obtain⟨a',q1,q2,q3⟩:=OQ a hx hy H.lv lu';have e4:(a.c:Int)+((y:Int)+(x:Int))=((a.c+(y+x):Nat):Int):=by omega
  have e6:=tI (a.c+(y+x));have e7:=Kc (a.c+(y+x));generalize(a.c+(y+x))%4294967296=nl at*
  generalize(a.c+(y+x))/4294967296=nc at*
  generalize hR2:pre++((a.us++U'.drop a.i)++post)=R2 at*
  refine eg (k:=uS rfl (bI (eF (eg (k:=rV (aP hget2 (aP hx e4)) (k:=dJ (aP e6 (aP hget2 (aP @dA hset2))) (k:=qp e7 (k:=Bk (k:=?_)))))))));refine⟨a',by omega,aE ⟨?_,trivial⟩ ?_⟩
  ·rw[q1,q2];rfl
  simp[wk,q1,q3]
 have hae:a.i=n+2:=by omega
 obtain⟨q1,q2⟩:=hleft a hae;have hget2:(pre++((a.us++U'.drop a.i)++post))[off+(n+2)]?=some t:=by
  have:=mE (post:=post) hp (At hal (show U'[a.i]?=some t by rw[hae];exact htop));rwa[hae]at this⊢
 have hset2:=ut (post:=post) ((t+a.c)%4294967296) hp (show a.i<(a.us++U'.drop a.i).length by omega);rw[uu _ hal (by omega),List.drop_eq_nil_iff.2 (show U'.length<=a.i+1 by omega),List.append_nil,q2,hae]at hset2;have e4:IntKind.u32.wrap ((t:Int)+(a.c:Int))=(((t+a.c)%4294967296:Nat):Int):=by rw[<- tI];congr 1<;>omega
 have e5:(g:Int)-1=((natV u/natV v:Nat):Int):=by rw[q1];simp
 have e6:IntKind.u32.wrap ((natV u/natV v:Nat):Int)=((natV u/natV v:Nat):Int):=by rw[tI];congr 1;exact Nat.mod_eq_of_lt hqlt
 have e8:IntKind.u64.wrap ((natV u/natV v:Nat):Int)=((natV u/natV v:Nat):Int):=by
  generalize natV u/natV v=qq at*
  rw[IntKind.wrap_u64];omega
 have hRe:pre++((a.us++U'.drop a.i)++post)=pre++((a.us++U'.drop (n+2))++post):=by rw[hae]
 generalize(t+a.c)%4294967296=nl at*
 rw[<- hRe]at hset2;generalize hR2:pre++((a.us++U'.drop a.i)++post)=R2 at*
 refine eg (k:=uR rfl (dJ (aP hget2 (aP @Hx (aP e4 (aP @dA hset2)))) (k:=dJ (aP e5 (aP e8 e6)) (k:=?_))));refine iX ⟨.inr rfl,⟨(.one (.sl 0 0 off (n+3))::jk::jk::jk::.raw (.int .u32 ((natV u/natV v:Nat):Int))::j16 (j16 (j16 (j16 (j16 (j16 (j16 (j16 (j16 (j16 (j4 (jk::jk::[])))))))))))),Hm [(0,[⟨56,1,lc fU (pre++(b6 (n+3) (natV u%natV v)++post))⟩])]⟩,aE ⟨rfl,trivial⟩ (by simp[wk]),rfl,iw _,?_⟩;simp(disch:=omega) only[kd,Tryz.results170]
section
theorem nT: ∀(k n x:Nat),b6 (k+n) x=b6 k x++b6 n (x/4294967296^k)
 |0,n,x=>by simp[b6]
 |k+1,n,x=>by
  rw[show k+1+n=(k+n)+1 by omega,b6,nT k n,b6,Nat.div_div_eq_div_mul,Nat.pow_succ,Nat.mul_comm 4294967296];rfl
theorem wj: ∀(k x:Nat),b6 k (x%4294967296^k)=b6 k x
 |0,x=>rfl
 |k+1,x=>by
  rw[b6,b6,Nat.pow_succ,Nat.mul_comm (4294967296^k),Nat.mod_mul_right_mod,Nat.mod_mul_right_div_self,wj k]
theorem qZ (k n x y:Nat) (hx:x<4294967296^k):b6 (k+n) (y*4294967296^k+x)=b6 k x++b6 n y:=by
 have hp:0<4294967296^k:=Nat.pow_pos (by omega);rw[nT,<- wj k (y*4294967296^k+x),Nat.mul_comm y,Nat.mul_add_mod,Nat.mod_eq_of_lt hx,Nat.mul_add_div hp,Nat.div_eq_of_lt hx,ao]
theorem yu: ∀n,b6 n 0=ae n 0
 |0=>rfl
 |n+1=>by rw[b6,Nat.zero_mod,Nat.zero_div,yu n];rfl
def fp (A V k:Nat):Nat:=A%(V*4294967296^k)
def lU (A V k:Nat):Nat:=A/(V*4294967296^k)*4294967296^k
section
variable {A V k:Nat} (hV:0<V)
include hV
theorem MY : fp A V (k + 1) / 4294967296 ^ k < V * 4294967296 := by
  have hp : 0 < 4294967296 ^ k := Nat.pow_pos (by omega);rw [Nat.div_lt_iff_lt_mul hp];have := Nat.mod_lt A (show 0 < V * 4294967296 ^ (k + 1) from Nat.mul_pos hV (Nat.pow_pos (by omega)));rw [Nat.pow_succ] at this;unfold fp;rw [Nat.pow_succ]
  calc _ < V * (4294967296 ^ k * 4294967296) := this
    _ = _ := by grind
omit hV in
theorem M0:fp A V k=fp A V (k+1)/4294967296^k%V*4294967296^k+fp A V (k+1)%4294967296^k:=by
 unfold fp;have e:V*4294967296^(k+1)=V*4294967296^k*4294967296:=by rw[Nat.pow_succ];grind
 have h1:A%(V*4294967296^k)=A%(V*4294967296^(k+1))%(V*4294967296^k):=by rw[e,Nat.mod_mul_right_mod]
 rw[h1];generalize A%(V*4294967296^(k+1))=x;rw[Nat.mul_comm V,Nat.mod_mul];generalize 4294967296^k=p;rw[Nat.add_comm,Nat.mul_comm p]
theorem MQ:lU A V k=lU A V (k+1)+fp A V (k+1)/4294967296^k/V*4294967296^k:=by
 unfold lU fp;have hp:0<4294967296^k:=Nat.pow_pos (by omega);have e:V*4294967296^(k+1)=V*4294967296^k*4294967296:=by rw[Nat.pow_succ];grind
 have h1:=Nat.div_add_mod A (V*4294967296^(k+1));generalize hq:A/(V*4294967296^(k+1))=q at*
 generalize hr:A%(V*4294967296^(k+1))=r at*
 have h2:A/(V*4294967296^k)=q*4294967296+r/4294967296^k/V:=by
  rw[<- h1,e,Nat.mul_assoc (V*4294967296^k),Nat.mul_add_div (Nat.mul_pos hV hp),Nat.div_div_eq_div_mul,Nat.mul_comm (4294967296^k) V,Nat.mul_comm 4294967296]
 rw[h2,Nat.pow_succ];grind
theorem rc:fp A V (k+1)/4294967296^k/V<4294967296:=by
 rw[Nat.div_lt_iff_lt_mul hV,Nat.mul_comm];exact MY hV
end
theorem Qa {A V k m:Nat} (hV:0<V) (hk:k<m) (hb:lU A V (k+1)<4294967296^m):(b6 m (lU A V (k+1))).set k (fp A V (k+1)/4294967296^k/V)=b6 m (lU A V k):=by
 have hd:=rc (A:=A) (k:=k) hV;rw[MQ (A:=A) (k:=k) hV];generalize fp A V (k+1)/4294967296^k/V=d at*
 obtain⟨q,hq⟩: ∃q,lU A V (k+1)=q*4294967296^(k+1):=⟨_,rfl⟩;rw[hq];obtain⟨r,rfl⟩: ∃r,m=k+(1+r):=⟨m-(k+1),by omega⟩;have e1:q*4294967296^(k+1)=(q*4294967296)*4294967296^k+0:=by rw[Nat.pow_succ];grind
 have e2:q*4294967296^(k+1)+d*4294967296^k=(q*4294967296+d)*4294967296^k+0:=by rw[Nat.pow_succ];grind
 have hp:0<4294967296^k:=Nat.pow_pos (by omega);rw[e2,qZ _ _ _ _ hp,e1,qZ _ _ _ _ hp,List.set_append_right _ _ (by rw[bS];exact ac _),bS,Nat.sub_self,Nat.add_comm 1 r,b6,b6,List.set_cons_zero];have a1:(q*4294967296+d)%4294967296=d:=by omega
 have a2:(q*4294967296+d)/4294967296=q*4294967296/4294967296:=by omega
 rw[a1,a2]
theorem Qk {A V k nb na:Nat} (hk:k+nb<=na):b6 (na+1) (fp A V (k+1))=b6 k (fp A V (k+1))++(b6 (nb+1) (fp A V (k+1)/4294967296^k)++b6 (na-(k+nb)) (fp A V (k+1)/4294967296^(k+nb+1))):=by
 conv=>lhs;rw[show na+1=k+((nb+1)+(na-(k+nb))) by omega]
 rw[nT,nT,Nat.div_div_eq_div_mul,<- Nat.pow_add,show k+(nb+1)=k+nb+1 by omega]
theorem MZ {A V k nb na:Nat} (hV:0<V) (hVB:V<=4294967296^nb) (hk:k+nb<=na):b6 k (fp A V (k+1))++(b6 (nb+1) (fp A V (k+1)/4294967296^k%V)++b6 (na-(k+nb)) (fp A V (k+1)/4294967296^(k+nb+1)))=b6 (na+1) (fp A V k):=by
 have hp:0<4294967296^k:=Nat.pow_pos (by omega);have hz:fp A V (k+1)/4294967296^(k+nb+1)=0:=by
  apply Nat.div_eq_of_lt;have:=Nat.mod_lt A (show 0<V*4294967296^(k+1)from Nat.mul_pos hV (Nat.pow_pos (by omega)));unfold fp;refine Nat.lt_of_lt_of_le this ?_;have e:4294967296^(k+nb+1)=4294967296^nb*4294967296^(k+1):=by rw[<- Nat.pow_add];congr 1;omega
  rw[e];exact Nat.mul_le_mul_right _ hVB
 have hm:=Nat.mod_lt (fp A V (k+1)/4294967296^k) hV;rw[M0 (A:=A) (V:=V) (k:=k),hz];generalize fp A V (k+1)/4294967296^k%V=u at*
 rw[<- wj k (fp A V (k+1))];have hx:=Nat.mod_lt (fp A V (k+1)) hp;generalize fp A V (k+1)%4294967296^k=x at*
 have hu:u<4294967296^(nb+1):=by
  have:4294967296^nb<=4294967296^(nb+1):=Nat.pow_le_pow_right (by omega) (by omega);omega
 rw[show na+1=k+((nb+1)+(na-(k+nb))) by omega,qZ _ _ _ _ hx]
 congr 1
 have:=qZ (nb+1) (na-(k+nb)) u 0 hu;rw[Nat.zero_mul,Nat.zero_add]at this;exact this.symm
/-! The shift. -/
theorem Bt: ∀(x:Nat),x≠0->x<18446744073709551616->1<=Lib.bitLen x/\2^(Lib.bitLen x-1)<=x/\x<2^Lib.bitLen x:=fun x=>by
 induction x using Nat.strongRecOn with
 |_ x ih=>
  intro h0 hx;have hh:=Lib.bitLen_half x h0 hx;by_cases h1:x/2=0
  ·have hx1:x=1:=by omega
   subst hx1;have:Lib.bitLen 1=1:=by decide
   rw[this];exact⟨by omega,by decide,by decide⟩
  obtain⟨q1,q2,q3⟩:=ih (x/2) (by omega) h1 (by omega);rw[hh];refine⟨by omega,?_,?_⟩
  ·rw[show 1+Lib.bitLen (x/2)-1=(Lib.bitLen (x/2)-1)+1 by omega,Nat.pow_succ];omega
  rw[Nat.add_comm,Nat.pow_succ];omega
def lz (x:Nat):Nat:=32-Lib.bitLen x
theorem PM {x : Nat} (h0 : x ≠ 0) (hx : x < 4294967296) : lz x < 32 /\ 2147483648 <= x * 2 ^ lz x /\ x * 2 ^ lz x < 4294967296 := by
  obtain ⟨h1, h2, h3⟩ := Bt x h0 (by omega);have h4 := Lib.bitLen_le x 32 (by omega) (by simpa using hx);unfold lz;refine ⟨by omega, ?_, ?_⟩
  · calc 2147483648 = 2 ^ (Lib.bitLen x - 1) * 2 ^ (32 - Lib.bitLen x) := by
          rw [<- Nat.pow_add, show Lib.bitLen x - 1 + (32 - Lib.bitLen x) = 31 by omega]
      _ <= _ := Nat.mul_le_mul_right _ h2
  · calc x * 2 ^ (32 - Lib.bitLen x) < 2 ^ Lib.bitLen x * 2 ^ (32 - Lib.bitLen x) := Nat.mul_lt_mul_of_pos_right h3 (Nat.two_pow_pos _)
      _ = 4294967296 := by rw [<- Nat.pow_add, show Lib.bitLen x + (32 - Lib.bitLen x) = 32 by omega]
theorem QD {b n x s : Nat} (hl : (aL b).length = n + 1) (hx : (aL b)[n]? = some x) (hs : 2147483648 <= x * 2 ^ s /\ x * 2 ^ s < 4294967296) (hs32 : s < 32) :
    b * 2 ^ s < 4294967296 ^ (n + 1) /\ 2147483648 * 4294967296 ^ n <= b * 2 ^ s := by
  have h1 := bG hx;rw [List.take_of_length_le (by omega), aN] at h1;have h2 := fG (aU b) n;have hp : 0 < 4294967296 ^ n := Nat.pow_pos (by omega);have hps := Cv hs32;constructor
  · -- b < (x + 1) B^n, and (x + 1) 2^s <= B, for x 2^s < B and 2^s divides B
    have h3 : (x + 1) * 2 ^ s <= 4294967296 := by
      have e : 4294967296 = 2 ^ (32 - s) * 2 ^ s := by rw [<- Nat.pow_add, show 32 - s + s = 32 by omega]
      rw [e] at hs ⊢;exact Nat.mul_le_mul_right _ (Nat.lt_of_mul_lt_mul_right hs.2)
    calc b * 2 ^ s < (x + 1) * 4294967296 ^ n * 2 ^ s := by
          refine Nat.mul_lt_mul_of_pos_right ?_ (Nat.two_pow_pos s);rw [h1, Nat.add_mul, Nat.one_mul]; omega
      _ = (x + 1) * 2 ^ s * 4294967296 ^ n := by grind
      _ <= 4294967296 * 4294967296 ^ n := Nat.mul_le_mul_right _ h3
      _ = 4294967296 ^ (n + 1) := by rw [Nat.pow_succ, Nat.mul_comm]
  · calc 2147483648 * 4294967296 ^ n <= x * 2 ^ s * 4294967296 ^ n := Nat.mul_le_mul_right _ hs.1
      _ = x * 4294967296 ^ n * 2 ^ s := by grind
      _ <= b * 2 ^ s := Nat.mul_le_mul_right _ (by omega)
end
theorem S8 {A V k n : Nat} (hV1 : V < 4294967296 ^ (n + 2)) (hV2 : 2147483648 * 4294967296 ^ (n + 1) <= V) : ∃ v1 v2 u2 u1 u0, w9 (b6 (n + 3) (fp A V (k + 1) / 4294967296 ^ k)) (b6 (n + 2) V) n v1 v2 u2 u1 u0 /\ natV (b6 (n + 3) (fp A V (k + 1) / 4294967296 ^ k)) = fp A V (k + 1) / 4294967296 ^ k /\ natV (b6 (n + 2) V) = V := by
  have hp : 0 < 4294967296 ^ (n + 1) := Nat.pow_pos (by omega);have hV : 0 < V := by omega
  have hr := MY (A := A) (k := k) hV;have hlt : fp A V (k + 1) / 4294967296 ^ k < 4294967296 ^ (n + 3) := by
    calc _ < V * 4294967296 := hr
      _ <= 4294967296 ^ (n + 2) * 4294967296 := Nat.mul_le_mul_right _ (Nat.le_of_lt hV1)
      _ = _ := (Nat.pow_succ ..).symm
  refine ⟨_, _, _, _, _, ⟨nI _ _, nI _ _, bS _ _, bS _ _, gk (by omega), gk (by omega), gk (by omega), gk (by omega), gk (by omega), ?_, ?_⟩, gz hlt, gz hV1⟩
  · have h1 : V / 4294967296 ^ (n + 1) < 4294967296 := by
      rw [Nat.div_lt_iff_lt_mul hp];have : 4294967296 ^ (n + 2) = 4294967296 ^ (n + 1) * 4294967296 := Nat.pow_succ ..;omega
    rw [Nat.mod_eq_of_lt h1, Nat.le_div_iff_mul_le hp];exact hV2
  · rw [gz hlt, gz hV1]; exact hr
theorem JB {a b s n m:Nat} (ha:a<4294967296^(n+2+m)) (hb:4294967296^(n+1)<=b):fp (a*2^s) (b*2^s) (m+1)=a*2^s/\lU (a*2^s) (b*2^s) (m+1)=0:=by
 have h1:a*2^s<b*2^s*4294967296^(m+1):=by
  have h2:4294967296^(n+2+m)<=b*4294967296^(m+1):=by
   have e:4294967296^(n+2+m)=4294967296^(n+1)*4294967296^(m+1):=by rw[<- Nat.pow_add];congr 1;omega
   rw[e];exact Nat.mul_le_mul_right _ hb
  rw[Nat.mul_right_comm];exact Nat.mul_lt_mul_of_pos_right (Nat.lt_of_lt_of_le ha h2) (Nat.two_pow_pos s)
 unfold fp lU;rw[Nat.mod_eq_of_lt h1,Nat.div_eq_of_lt h1,Nat.zero_mul];exact⟨rfl,rfl⟩
theorem Qj {a b s:Nat}:fp (a*2^s) (b*2^s) 0=a%b*2^s/\lU (a*2^s) (b*2^s) 0=a/b:=by
 unfold fp lU;rw[Nat.pow_zero,Nat.mul_one,Nat.mul_one,Nat.mul_mod_mul_right,Nat.mul_div_mul_right _ _ (Nat.two_pow_pos s)];exact⟨rfl,rfl⟩
theorem Ts {A V k m:Nat} (hA:A<V*4294967296^m) (hk:k<=m):lU A V k<4294967296^m:=by
 have hp:0<4294967296^k:=Nat.pow_pos (by omega);unfold lU;have h1:A/(V*4294967296^k)<4294967296^(m-k):=by
  rw[<- Nat.div_div_eq_div_mul];apply Nat.div_lt_of_lt_mul;apply Nat.div_lt_of_lt_mul;have e:4294967296^m=4294967296^k*4294967296^(m-k):=by rw[<- Nat.pow_add];congr 1;omega
  rw[e]at hA;exact hA
 have e:4294967296^m=4294967296^(m-k)*4294967296^k:=by rw[<- Nat.pow_add];congr 1;omega
 rw[e];exact Nat.mul_lt_mul_of_pos_right h1 hp
theorem Dd {b n:Nat} (h:(aL b).length=n+1): ∃x,(aL b)[n]?=some x/\x≠0/\x<4294967296/\4294967296^n<=b:=by
 obtain⟨x,hx⟩: ∃x,(aL b)[n]?=some x:=⟨(aL b)[n],by simp[h]⟩;have hc:=cn b;unfold pu at hc;rw[List.getLast?_eq_getElem?,h,Nat.add_sub_cancel,hx]at hc;have hx0:x≠0:=fun e=>hc (by rw[e])
 have h1:=bG hx;rw[List.take_of_length_le (by omega),aN]at h1;refine⟨x,hx,hx0,cq (aU b) hx,?_⟩;rw[h1];have:1*4294967296^n<=x*4294967296^n:=Nat.mul_le_mul_right _ (by omega);omega
theorem IZ {b:Nat} (h:(aL b).length=1):(aL b)[0]?=some b/\b<4294967296:=by
 obtain⟨x,hx,_,hx',_⟩:=Dd (n:=0) h;have h1:=bG hx;rw[List.take_of_length_le (by omega),aN]at h1;simp[natV]at h1;subst h1;exact⟨hx,hx'⟩
theorem B9 (a:Nat):a<4294967296^(aL a).length:=by
 have:=fF (aU a);rwa[aN]at this
theorem Ju {n m x:Nat} (h:n<=m):(b6 m x).take n=b6 n x:=by
 obtain⟨d,rfl⟩: ∃d,m=n+d:=⟨m-n,by omega⟩;rw[nT,List.take_left' (bS _ _)]
theorem UR (x:Nat) (h:x<4294967296):CallC Tryz.prog 168 [.raw (.int .u32 (x:Int))] ⟨[],.raw (.int .i64 (lz x:Int))⟩:=by
 refine ic (by kernel_rfl) fun X w vs hX hvs ha=>?_
 obtain⟨v0,e0,r0⟩:=md ha (j:=0) rfl;obtain⟨rfl,_⟩:=bO (ρ:=fun _ _=>none) (H:=fun _=>[]) r0;obtain rfl:vs= #[.int .u32 (x:Int)]:=by
  apply Array.ext_getElem?;intro j
  match j with
  |0=>exact e0
  |j+1=>rw[Array.getElem?_eq_none (by simp at hvs;omega)];rfl
 have hb:=Lib.bitLen_le x 32 (by omega) (by simpa using h);have e:(32-(Lib.bitLen (x:Int).toNat:Int))=(lz x:Int):=by rw[Int.toNat_natCast];unfold lz;omega
 have:=Any.bits_LeadingZeros32 Tryz.lays133 (x:Int) w (by omega) (by omega);rw[e]at this;exact this.mono fun e w' ⟨h1,h2⟩=>⟨_,h1,fun ρ H Y=>dC rfl,by rw[h2];exact Ext.refl _⟩
theorem Is {P:Program} {f:FuncId} {args:List TV} {l:List Nat} (hl:0<l.length) (hc:callable P f=true) (h: ∀(X:Nat->Prop) (w:World) (vs:Array Value),(∀b,X b->b<w.heap.size)->vs.size=args.length->
  (∀(j:Nat) t,args[j]?=some t-> ∃v:Value,vs[j]?=some v/\t.rel (fun _ _=>none) (fun _=>[]) X w v)->Calls P f vs w fun e w'=> ∃v,e= .returned v/\w'.ownsRow w.heap.size 56 1 v l.length ((l.map fun n:Nat=>(n:Int)).map (Value.int .u32))/\Ext w w'):CallC P f args ⟨[⟨56,1,lc fU l⟩],.one (.sl 0 0 0 l.length)⟩:=
 ⟨hc,fun X w vs hX hvs ha=>(h X w vs hX hvs ha).mono fun e w' ⟨v,h1,⟨_,h2⟩,h3⟩=>by
  rcases h2 with⟨_,hn⟩|⟨g,cap,cur,hv,hg,hh,hnc,hm2,hs,ht⟩
  ·omega
  have hr:rho1 g cap 0 0=some (g,cap):=by simp[rho1]
  have hcell: ∀(i:Nat) z,l[i]?=some z->cur[i]?=some (.int .u32 (z:Int)):=fun i z hz=>by
   have h3:((l.map fun n:Nat=>(n:Int)).map (Value.int .u32))[i]?=some (.int .u32 (z:Int)):=by rw[az,az,hz];rfl
   rw[<- ht,List.getElem?_take]at h3;split at h3
   ·simpa using h3
   cases h3
  refine⟨v,h1,rho1 g cap,⟨BJ h3,fun a r o ho=>?_,fun a r a' r' o o' b c c' ho ho' _ _=>?_,fun a r o b c ho hb=>?_,fun b hb=>Nat.lt_of_lt_of_le (hX b hb) h3.size,fun a r o ho=>?_⟩,?_⟩
  ·obtain⟨rfl,rfl,rfl⟩:=qI ho;refine⟨fun e he=>?_,Nat.zero_lt_one,?_⟩
   ·obtain⟨z,_,rfl⟩:=List.mem_map.1 he;rfl
   rw[hr];refine⟨cur,hh,hs,by rw[nH];exact hnc,hm2,fun i e j x he hx=>?_⟩;simp only at he;rw[EB]at he;obtain⟨z,hz,rfl⟩:=Option.map_eq_some_iff.1 he;cases j with
   |succ j=>simp[fU]at hx
   |zero=>
    simp[fU]at hx;subst hx;exact⟨.int .u32 (z:Int),by rw[Nat.mul_one,ao];exact hcell i z hz,rfl,cu.raw _ rfl⟩
  ·obtain⟨rfl,rfl,_⟩:=qI ho;obtain⟨rfl,rfl,_⟩:=qI ho';exact⟨rfl,rfl⟩
  ·obtain⟨rfl,rfl,_⟩:=qI ho;rw[hr]at hb;injection hb with hb
   injection hb with hb _
   subst hb;exact⟨.inl hg,fun hX'=>absurd (hX _ hX') (by omega)⟩
  ·obtain⟨rfl,rfl,rfl⟩:=qI ho;exact dK (eW _ _)
  exact⟨_,rfl,by simp[nH],.inr ⟨g,cap,cap,hr,by rw[hv];simp,hnc,fun _=>rfl⟩⟩⟩
theorem IN (l:List Nat) (h0:0<l.length) (hl:l.length<=1073741824):CallC Tryz.prog 156 [dw l] ⟨[⟨56,1,lc fU l⟩],.one (.sl 0 0 0 l.length)⟩:=by
 refine Is h0 (by kernel_rfl) fun X w vs hX hvs ha=>?_
 obtain⟨v0,e0,r0⟩:=md ha (j:=0) rfl;obtain⟨A,c,rfl,hc,hR⟩:=G6 r0;obtain rfl:vs= #[.slice A l.length c]:=by
  apply Array.ext_getElem?;intro j
  match j with
  |0=>exact e0
  |j+1=>rw[Array.getElem?_eq_none (by simp at hvs;omega)];rfl
 have hlen:(l.map fun n:Nat=>(n:Int)).length=l.length:=List.length_map _;have:=vg A c (l.map fun n:Nat=>(n:Int)) w hR (by rw[hlen];omega);rw[hlen]at this;exact this
section
theorem bH (c:Int) (F:Nat->Int): ∀k,smF (fun p=>c*F p) k=c*smF F k
 |0=>by simp[smF]
 |k+1=>by rw[smF,smF,bH c F k];grind
theorem jr (c:Int) (F:Nat->Int) (k:Nat):smF (fun p=>F p*c) k=smF F k*c:=by
 rw[Int.mul_comm,<- bH];exact aI k fun p _=>Int.mul_comm _ _
theorem eQ (F:FF) (m:Nat): ∀n,smF (fun i=>smF (F i) m) n=smF (fun j=>smF (fun i=>F i j) n) m
 |0=>by simp only[smF];exact(cX m).symm
 |n+1=>by rw[smF,eQ F m n,<- jM];rfl
theorem AC {F:Nat->Int} {B:Int}: ∀k,(∀p,p<k-> -B<=F p/\F p<=B)-> -((k:Int)*B)<=smF F k/\smF F k<=(k:Int)*B
 |0,_=>by simp[smF]
 |k+1,h=>by
  have ih:=AC k fun p hp=>h p (by omega)
  have h1:=h k (by omega);have e:(((k+1:Nat):Int))*B=(k:Int)*B+B:=by rw[Int.natCast_add,Int.add_mul];simp
  rw[smF,e];omega
def BF (n:Nat) (f:FF) (x y:Nat->Int):Int:=smF (fun i=>x i*smF (fun j=>f i j*y j) n) n
variable {n:Nat}
theorem dY {f f':FF} {x x' y y':Nat->Int} (hf: ∀i j,i<n->j<n->f i j=f' i j) (hx: ∀i,i<n->x i=x' i) (hy: ∀i,i<n->y i=y' i):BF n f x y=BF n f' x' y':=
 aI n fun i hi=>by rw[hx i hi,aI n fun j hj=>by rw[hf i j hi hj,hy j hj]]
theorem iW (f:FF) (x x' y:Nat->Int) (c:Int):BF n f (fun i=>x i+c*x' i) y=BF n f x y+c*BF n f x' y:=by
 unfold BF;rw[<- bH,<- jM];exact aI n fun i _=>by grind
theorem gP (f:FF) (x y y':Nat->Int) (c:Int):BF n f x (fun i=>y i+c*y' i)=BF n f x y+c*BF n f x y':=by
 unfold BF;rw[<- bH,<- jM];refine aI n fun i _=>?_
 rw[aI n (G:=fun j=>f i j*y j+c*(f i j*y' j)) (fun j _=>by grind),jM,bH];grind
theorem tN (f g:FF) (x y:Nat->Int) (a b:Int):BF n (fun i j=>a*f i j+b*g i j) x y=a*BF n f x y+b*BF n g x y:=by
 unfold BF;rw[<- bH,<- bH,<- jM];refine aI n fun i _=>?_
 rw[aI n (G:=fun j=>a*(f i j*y j)+b*(g i j*y j)) (fun j _=>by grind),jM,bH,bH];grind
theorem FD (u v x y:Nat->Int):BF n (fun i j=>u i*v j) x y=smF (fun i=>x i*u i) n*smF (fun j=>v j*y j) n:=by
 unfold BF;rw[<- jr];refine aI n fun i _=>?_
 rw[aI n (G:=fun j=>u i*(v j*y j)) (fun j _=>by grind),bH];grind
theorem pr {f:FF} (hs:SymF f n) (x y:Nat->Int):BF n f x y=BF n f y x:=by
 unfold BF;rw[aI n (G:=fun i=>smF (fun j=>x i*f i j*y j) n) (fun i _=>by rw[<- bH];exact aI n fun j _=>by grind),
  aI n (F:=fun i=>y i*_) (G:=fun i=>smF (fun j=>x j*f j i*y i) n) (fun i hi=>by rw[<- bH];exact aI n fun j hj=>by rw[hs i hi j hj];grind)]
 exact eQ _ _ _
theorem pe {f:FF} (hs:SymF f n) (hp: ∀k,k<n->0<dk f (k+1)) (x:Nat->Int): ∀m k,m+k=n->0<=BF n (bk f k) x x/\(BF n (bk f k) x x=0-> ∀i,k<=i->i<n->x i=0)
 |0,k,h=>by
  obtain rfl:k=n:=by omega
  refine⟨?_,fun _ i h1 h2=>by omega⟩;have:BF k (bk f k) x x=0:=by
   unfold BF;rw[aI k (G:=fun _=>0) (fun i hi=>by rw[aI k (G:=fun _=>0) (fun j _=>by rw[jH f hi,Int.zero_mul]),cX,Int.mul_zero]),cX]
  omega
 |m+1,k,h=>by
  obtain⟨h1,h2⟩:=pe hs hp x m (k+1) (by omega);have hne: ∀t,t<n->dk f (t+1)≠0:=fun t ht=>by have:=hp t ht;omega
  have hd:0<dk f k:=kf fun t ht=>hp t (by omega)
  have hd1:=hp k (by omega);have key:dk f k*BF n (bk f (k+1)) x x=dk f (k+1)*BF n (bk f k) x x-smF (fun j=>bk f k k j*x j) n*smF (fun j=>bk f k k j*x j) n:=by
   have e0:dk f k*BF n (bk f (k+1)) x x=BF n (fun i j=>dk f k*bk f (k+1) i j+0*bk f k i j) x x:=by rw[tN];omega
   rw[e0,dY (f':=fun i j=>dk f (k+1)*bk f k i j+(-1)*(bk f k k i*bk f k k j)) (fun i j hi hj=>by
    have:=sylv f k (fun t ht=>hne t (by omega)) i j;have e:=ju hs k (by omega) (fun t ht=>hne t (by omega)) i k hi (by omega);rw[e]at this;omega) (fun _ _=>rfl) (fun _ _=>rfl),tN,FD,aI n (F:=fun i=>x i*bk f k k i) (G:=fun j=>bk f k k j*x j) (fun i _=>Int.mul_comm _ _)]
   omega
  have hsq:0<=smF (fun j=>bk f k k j*x j) n*smF (fun j=>bk f k k j*x j) n:=by
   rcases Int.le_total 0 (smF (fun j=>bk f k k j*x j) n)with h|h
   ·exact Int.mul_nonneg h h
   exact Int.mul_nonneg_of_nonpos_of_nonpos h h
  have hpr:=Int.mul_nonneg (Int.le_of_lt hd) h1;have hge:0<=dk f (k+1)*BF n (bk f k) x x:=by omega
  refine⟨?_,fun hz=>?_⟩
  ·rcases Int.lt_or_le (BF n (bk f k) x x) 0 with hl|hl
   ·have:=Int.mul_neg_of_pos_of_neg hd1 hl;omega
   exact hl
  rw[hz,Int.mul_zero]at key;have z1:dk f k*BF n (bk f (k+1)) x x=0:=by omega
  have z2:smF (fun j=>bk f k k j*x j) n*smF (fun j=>bk f k k j*x j) n=0:=by omega
  have z3:BF n (bk f (k+1)) x x=0:=by
   rcases Int.mul_eq_zero.1 z1 with h|h
   ·omega
   exact h
  have z4:smF (fun j=>bk f k k j*x j) n=0:=by
   rcases Int.mul_eq_zero.1 z2 with h|h<;>exact h
  have hx:=h2 z3;rw[gU (a:=k) (by omega) (fun p hpn hpk=>by
   by_cases hlt:p<k
   ·rw[DX hs hne (by omega) hlt (by omega),Int.zero_mul]
   rw[hx p (by omega) hpn,Int.mul_zero])]at z4
  rw[ca]at hd1;intro i hi hin;by_cases e:i=k
  ·subst e;rcases Int.mul_eq_zero.1 z4 with h|h
   ·omega
   exact h
  exact hx i (by omega) hin
theorem Kh {f:FF} (hr:RedR f n) (x:Nat->Int):0<=BF n f x x/\(BF n f x x=0↔ ∀i,i<n->x i=0):=by
 have h:=pe hr.1 hr.2.1 x n 0 rfl;have e:BF n (bk f 0) x x=BF n f x x:=dY (fun i j _ _=>dz f i j) (fun _ _=>rfl) (fun _ _=>rfl);rw[e]at h;refine⟨h.1,fun hz i hi=>h.2 hz i (by omega) hi,fun h0=>?_⟩;unfold BF;rw[aI n (G:=fun _=>0) (fun i hi=>by rw[h0 i hi,Int.zero_mul]),cX]
theorem schwarz {f:FF} (hr:RedR f n) (x y:Nat->Int):BF n f x y*BF n f x y<=BF n f x x*BF n f y y:=by
 have hs:=pr hr.1 x y;obtain⟨h1,h2⟩:=Kh hr y;obtain⟨q,hq⟩: ∃q,q=BF n f x y:=⟨_,rfl⟩;obtain⟨o,ho⟩: ∃o,o=BF n f y y:=⟨_,rfl⟩;obtain⟨N,hN⟩: ∃N,N=BF n f x x:=⟨_,rfl⟩;have hpos:=(Kh hr (fun i=>(0+o*x i)+(-q)*y i)).1;have e:BF n f (fun i=>(0+o*x i)+(-q)*y i) (fun i=>(0+o*x i)+(-q)*y i)=o*(o*N-q*q):=by
  have ez: ∀u,BF n f (fun _=>0) u=0:=fun u=>by
   unfold BF;rw[aI n (G:=fun _=>0) (fun i _=>Int.zero_mul _),cX]
  have ez': ∀u,BF n f u (fun _=>0)=0:=fun u=>by rw[pr hr.1,ez]
  rw[iW f (fun i=>0+o*x i) y,gP f (fun i=>0+o*x i) (fun i=>0+o*x i) y,gP f y (fun i=>0+o*x i) y,
   iW f (fun _=>0) x,iW f (fun _=>0) x,gP f x (fun _=>0) x,gP f y (fun _=>0) x,ez,ez,ez',ez',<- hs,<- hq,<- ho,<- hN]
  grind
 rw[e]at hpos;rw[<- hq,<- ho,<- hN];rcases Int.lt_or_le 0 o with h|h
 ·have:0<=o*N-q*q:=by
   rcases Int.lt_or_le (o*N-q*q) 0 with hl|hl
   ·have:=Int.mul_neg_of_pos_of_neg h hl;omega
   exact hl
  have:o*N=N*o:=Int.mul_comm _ _;omega
 have o0:o=0:=by omega
 have hy:=h2.1 (ho▸o0);have q0:q=0:=by
  rw[hq,hs];unfold BF;rw[aI n (G:=fun _=>0) (fun i hi=>by rw[hy i hi,Int.zero_mul]),cX]
 rw[o0,q0];omega
end
theorem qY (M:List (List Int)):CallC Tryz.prog 18 [dj M] ⟨[],.raw (.bool (b8 M))⟩:=by
 refine ic (by kernel_rfl) fun X w vs hX hvs ha=>?_
 obtain⟨v0,e0,r0⟩:=md ha (j:=0) rfl;obtain⟨A,c,rfl,hc,hl,hR⟩:=o6 r0;obtain rfl:vs= #[.slice A M.length c]:=by
  apply Array.ext_getElem?;intro j
  match j with
  |0=>exact e0
  |j+1=>rw[Array.getElem?_eq_none (by simp at hvs;omega)];rfl
 refine(lj A c M w hR hl hc).mono fun e w' ⟨h1,h2⟩=>?_
 exact⟨_,h1,fun _ _ _=>wy _,h2⟩
theorem P2 (n:Int) (x:List Int):CallC Tryz.prog 58 [.raw (.int .i64 n),jL x] ⟨[],.raw (.bool (FitB n x))⟩:=by
 refine ic (by kernel_rfl) fun X w vs hX hvs ha=>?_
 obtain⟨v0,e0,r0⟩:=md ha (j:=0) rfl;obtain⟨v1,e1,r1⟩:=md ha (j:=1) rfl;obtain rfl:=mD r0;obtain⟨B,d,rfl,hd,hlx,hx⟩:=i4 r1;obtain rfl:vs= #[.int .i64 n,.slice B x.length d]:=by
  apply Array.ext_getElem?;intro j
  match j with
  |0=>exact e0
  |1=>exact e1
  |j+2=>rw[Array.getElem?_eq_none (by simp at hvs;omega)];rfl
 refine(qJ n B d x w hx hlx).mono fun e w' ⟨h1,h2⟩=>?_
 subst h2;exact⟨_,h1,fun _ _ _=>wy _,Ext.refl _⟩
theorem TA (a b:List (List Int)):CallC Tryz.prog 32 [dj a,dj b] ⟨[],.raw (.bool (decide (a=b)))⟩:=by
 refine ic (by kernel_rfl) fun X w vs hX hvs ha=>?_
 obtain⟨v0,e0,r0⟩:=md ha (j:=0) rfl;obtain⟨v1,e1,r1⟩:=md ha (j:=1) rfl;obtain⟨A,c,rfl,hc,hl,hA⟩:=o6 r0;obtain⟨B,d,rfl,hd,hlb,hB⟩:=o6 r1;obtain rfl:vs= #[.slice A a.length c,.slice B b.length d]:=by
  apply Array.ext_getElem?;intro j
  match j with
  |0=>exact e0
  |1=>exact e1
  |j+2=>rw[Array.getElem?_eq_none (by simp at hvs;omega)];rfl
 refine(Nh A B c d a b w hA hB hl hlb).mono fun e w' ⟨h1,h2⟩=>?_
 exact⟨_,h1,fun _ _ _=>wy _,h2⟩
theorem MU {X:Nat->Prop} {w:World} {l:List Int} {b off c:Nat} (hX: ¬X b) (hb:b<w.heap.size) (hl:l.length<=c) (hm:l.length<=9223372036854775807) (h:RdI .i64 w (some ⟨b,off,none⟩) l):cu X w (.sl (ls fI l)) (.slice (some ⟨b,off,none⟩) l.length c):=by
 have hc: ∀(i:Nat) (z:Int),l[i]?=some z->w.cell? ⟨b,off+i,none⟩=some (.int .i64 z):=fun i z hz=>by
  cases l with
  |nil=>simp at hz
  |cons z0 l0=>
   obtain⟨b',off',h1,hc⟩:=h (by simp);injection h1 with h1
   injection h1 with h1 h2
   subst h1 h2;exact hc i _ (by rw[az,hz];rfl)
 have:=cu.sl (X:=X) (w:=w) b off 1 c (ls fI l) (fun i _=> .int .i64 (l.getD i 0)) hX hb (fun e he=>by
  obtain⟨z,_,rfl⟩:=List.mem_map.1 he;rfl) (by rw[fD];exact hl) (by rw[fD];exact hm) (fun i e j x he hx=>by
  rw[iA]at he;obtain⟨z,hz,rfl⟩:=Option.map_eq_some_iff.1 he;cases j with
  |succ j=>simp[fI]at hx
  |zero=>
   simp only[Nat.mul_one,ao,List.getD_eq_getElem?_getD,hz,Option.getD_some];exact hc i z hz) (fun i e j x he hx=>by
  rw[iA]at he;obtain⟨z,hz,rfl⟩:=Option.map_eq_some_iff.1 he;cases j with
  |succ j=>simp[fI]at hx
  |zero=>
   simp[fI]at hx;subst hx;simp only[List.getD_eq_getElem?_getD,hz,Option.getD_some];exact cu.raw _ rfl)
 rw[fD]at this;exact this
theorem My (M:List (List Int)) (x:List Int) (hM:b8 M=true) (hx:FitB M.length x=true):CallC Tryz.prog 60 [dj M,jL x] ⟨[],jL (dN M x)⟩:=by
 refine u6 (by kernel_rfl) fun X w vs hX hvs ha=>?_
 obtain⟨v0,e0,r0⟩:=md ha (j:=0) rfl;obtain⟨v1,e1,r1⟩:=md ha (j:=1) rfl;obtain⟨A,c,rfl,hc,hl,hR⟩:=o6 r0;obtain⟨B,d,rfl,hd,hlx,hrx⟩:=i4 r1;obtain rfl:vs= #[.slice A M.length c,.slice B x.length d]:=by
  apply Array.ext_getElem?;intro j
  match j with
  |0=>exact e0
  |1=>exact e1
  |j+2=>rw[Array.getElem?_eq_none (by simp at hvs;omega)];rfl
 have hs:=gy hM;obtain⟨hxl,hxb⟩:=i6.1 hx;have h8:M.length<=8:=hs.2.1;have h1:1<=M.length:=hs.1;refine(xO A B c d M x w hR hrx (by omega) (fun i hi=>by rw[hs.2.2.1 i hi];omega) hlx).mono fun e w' ⟨h1,h2,h3⟩=>?_
 refine⟨_,h1,fun ρ H Y hY=>?_,h3⟩;have hlen:=li M x;have hb:w.heap.size<w'.heap.size:=by
  obtain⟨b,off,h4,h5⟩:=h2 (by intro h;rw[List.map_eq_nil_iff]at h;rw[h]at hlen;simp at hlen;omega);injection h4 with h4
  injection h4 with h4 h6
  subst h4 h6;cases hz:(dN M x)[0]? with
  |none=>rw[List.getElem?_eq_none_iff]at hz;omega
  |some z=>exact oC (h5 0 _ (by rw[az,hz];rfl))
 have:=MU (X:=Y) (c:=M.length) (fun h=>absurd (hY _ h) (by omega)) hb (by omega) (by omega) h2;rw[hlen]at this;exact this
theorem Tp (M:List (List Int)) (x y:List Int) (hM:b8 M=true) (hx:FitB M.length x=true) (hy:FitB M.length y=true):CallC Tryz.prog 59 [jL x,jL (dN M y)] ⟨[],Uj (dE x (dN M y) x.length)⟩:=by
 refine ic (by kernel_rfl) fun X w vs hX hvs ha=>?_
 obtain⟨v0,e0,r0⟩:=md ha (j:=0) rfl;obtain⟨v1,e1,r1⟩:=md ha (j:=1) rfl;obtain⟨A,c,rfl,hc,hl,hrx⟩:=i4 r0;obtain⟨B,d,rfl,hd,hly,hry⟩:=i4 r1;obtain rfl:vs= #[.slice A x.length c,.slice B (dN M y).length d]:=by
  apply Array.ext_getElem?;intro j
  match j with
  |0=>exact e0
  |1=>exact e1
  |j+2=>rw[Array.getElem?_eq_none (by simp at hvs;omega)];rfl
 have hs:=gy hM;obtain⟨hxl,hxb⟩:=i6.1 hx;obtain⟨hyl,hyb⟩:=i6.1 hy;have h8:M.length<=8:=hs.2.1;have hlen:=li M y;refine(Gq A B c d x (dN M y) w hrx hry (by omega) (by omega) hly (fun i z hz=>jZ hxb hz) (xN hs hyb)).mono fun e w' ⟨h1,h2⟩=>?_
 refine⟨_,h1,fun ρ H Y=>?_,h2⟩;unfold Uj vq;split
 ·exact uo _ _
 exact uo _ _
/-! The plain side of Gram. -/
def vG (M l:List (List Int)) (i j:Nat):Int:=dE (l.getD i []) (dN M (l.getD j [])) (l.getD i []).length
structure PG (M l:List (List Int)) (i j:Nat):Prop where
 x:FitB M.length (l.getD i [])=true
 y:FitB M.length (l.getD j [])=true
 lo: -4611686018427387904<=vG M l i j
 hi:vG M l i j<=4611686018427387904
def Va (M l:List (List Int)):Prop:=b8 M=true/\ ∀i,i<l.length-> ∀j,j<l.length->PG M l i j
theorem Ew {M:List (List Int)} {x y:List Int} (hM:b8 M=true) (hx:FitB M.length x=true) (hy:FitB M.length y=true):
  dE x (dN M y) x.length=BF M.length (ent M) (fun i=>x.getD i 0) (fun i=>y.getD i 0):=by
 obtain⟨h1,h8,hsq,hr⟩:=(fk M).1 hM;obtain⟨hxl,hxb⟩:=i6.1 hx;obtain⟨hyl,hyb⟩:=i6.1 hy;generalize hn:M.length=n at*
 have eM:M=bi n n (ent M):=by
  apply List.ext_getElem?;intro i;by_cases hi:i<n
  ·rw[bx _ _ hi];obtain⟨r,hr'⟩:=getElem?_of_lt (show i<M.length by omega);rw[hr'];have hrl:r.length=n:=by
    have:=hsq i (by omega);rw[List.getD_eq_getElem?_getD,hr']at this;simpa[hn] using this
   refine congrArg some ?_;apply List.ext_getElem?;intro j;by_cases hj:j<n
   ·rw[aQ _ hj];obtain⟨z,hz⟩:=getElem?_of_lt (show j<r.length by omega);rw[hz];simp[ent,List.getD_eq_getElem?_getD,hr',hz]
   rw[ar (by omega),ar (by rw[bf];omega)]
  rw[ar (by omega),ar (by rw[aW];omega)]
 have er: ∀(x:List Int),x.length=n->x=bj n (fun i=>x.getD i 0):=fun x hxl=>by
  apply List.ext_getElem?;intro j;by_cases hj:j<n
  ·rw[aQ _ hj];obtain⟨z,hz⟩:=getElem?_of_lt (show j<x.length by omega);simp[List.getD_eq_getElem?_getD,hz]
  rw[ar (by omega),ar (by rw[bf];omega)]
 have hM2:b8 (bi n n (ent M))=true:=by rw[<- eM];exact hM
 have ex:=er x hxl;have ey:=er y hyl;rw[show dN M y=Dq n n (ent M) y by rw[<- DW hM2 hyb,<- eM],hxl,Dq];generalize(fun i=>x.getD i 0)=fx at*
 generalize(fun i=>y.getD i 0)=fy at*
 rw[ex,ey,qt _ _ n (ac _)];exact aI n fun i _=>by rw[qt _ _ n (ac _)]
theorem Oe {M l:List (List Int)} {i j:Nat} (hM:b8 M=true) (hi:FitB M.length (l.getD i [])=true) (hj:FitB M.length (l.getD j [])=true):vG M l i j=vG M l j i:=by
 unfold vG;rw[Ew hM hi hj,Ew hM hj hi];obtain⟨h1,h8,hsq,hr⟩:=(fk M).1 hM;exact pr hr.1 _ _
theorem sP {P:Program} {fn:Func} {s:AS} {r:TV} (k:Nat) (hk:s.tmps[k]?=some (.raw (.slice none 0 0))) (hd:s.H 1000=[]) (h:rl P ⟨s.tmps.set k (.one (.p (.sl []))),s.H⟩ fn.results.toList=some r) (hp:noRefTV r=true): ∃s',ci s s'/\mO P fn ⟨[],r⟩ s':=
 ⟨_,FO k hk,ro hd h hp⟩
theorem sE (M:List (List Int)) (r:List Int):lc (fR fI) M++[[.p (.sl (ls fI r))]]=lc (fR fI) (M++[r]):=by simp[lc,fR]
end Go.Proofs.YtiollbhgpiiodaaGreatDoor
