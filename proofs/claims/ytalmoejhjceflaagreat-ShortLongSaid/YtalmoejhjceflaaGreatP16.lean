/-
  Part 17 of a proof (walks and plain facts).
-/
import Derived.Test.YtalmoejhjceflaaGreatP15
import Derived.Lib.BitFns
set_option linter.all false
set_option maxRecDepth 100000
set_option maxHeartbeats 64000000
open Nat renaming reduceAdd → aa
open Nat renaming le_refl → ae
open List renaming replicate → af
open Int renaming reduceToNat → an
open List renaming getElem?_eq_none → au
open List renaming getElem?_map → az
namespace Go.Proofs.YtalmoejhjceflaaGreat
open Go.RowKit
section
theorem FM {l:List Nat} {n x y:Nat} (hn:l.length=n+2) (hx:l[n+1]?=some x) (hy:l[n]?=some y):natV l=(x*4294967296+y)*4294967296^n+natV (l.take n):=by
 have h1:=bv hx;have h2:=bv hy;rw[List.take_of_length_le (by omega)]at h1;rw[h1,h2,Nat.pow_succ];grind
theorem FN {l:List Nat} {n x y z:Nat} (hn:l.length=n+3) (hx:l[n+2]?=some x) (hy:l[n+1]?=some y) (hz:l[n]?=some z):natV l=((x*4294967296+y)*4294967296+z)*4294967296^n+natV (l.take n):=by
 have h1:=bv hx;have h2:=bv hy;have h3:=bv hz;rw[List.take_of_length_le (by omega)]at h1;rw[h1,h2,h3,Nat.pow_succ,Nat.pow_succ];grind
structure uH (u v:List Nat) (n v1 v2 u2 u1 u0:Nat):Prop where
 lu:Lmb u
 lv:Lmb v
 nu:u.length=n+3
 nv:v.length=n+2
 hv1:v[n+1]?=some v1
 hv2:v[n]?=some v2
 hu2:u[n+2]?=some u2
 hu1:u[n+1]?=some u1
 hu0:u[n]?=some u0
 top:2147483648<=v1
 lt:natV u<natV v*4294967296
section
variable {u v:List Nat} {n v1 v2 u2 u1 u0:Nat} (h:uH u v n v1 v2 u2 u1 u0)
include h
theorem uH.vpos:0<natV v:=by
 have:=h.lt;by_cases hv:natV v=0
 ·rw[hv]at this;omega
 omega
theorem uH.bv1:v1<4294967296:=cH h.lv h.hv1
theorem uH.bv2:v2<4294967296:=cH h.lv h.hv2
theorem uH.bu2:u2<4294967296:=cH h.lu h.hu2
theorem uH.bu1:u1<4294967296:=cH h.lu h.hu1
theorem uH.bu0:u0<4294967296:=cH h.lu h.hu0
theorem uH.eV:natV v=(v1*4294967296+v2)*4294967296^n+natV (v.take n):=FM h.nv h.hv1 h.hv2
theorem uH.eU:natV u=((u2*4294967296+u1)*4294967296+u0)*4294967296^n+natV (u.take n):=FN h.nu h.hu2 h.hu1 h.hu0
theorem uH.vl:natV (v.take n)<4294967296^n:=fc h.lv n
theorem uH.ul:natV (u.take n)<4294967296^n:=fc h.lu n
theorem uH.q_lt:natV u/natV v<4294967296:=by
 rw[Nat.div_lt_iff_lt_mul h.vpos,Nat.mul_comm];exact h.lt
theorem uH.u2_le : u2 <= v1 := by
  have e1 := h.eV;have e2 := h.eU;have h1 := h.lt;have h2 := h.vl;have h3 := h.bv2;have hL : 0 < 4294967296 ^ n := Nat.pow_pos (by omega);generalize 4294967296 ^ n = L at *
  by_cases hc : u2 <= v1
  · exact hc
  · exfalso
    have h4 : (v1 + 1) * 4294967296 * 4294967296 * L <= natV u := by
      rw [e2];have : (v1 + 1) * 4294967296 * 4294967296 * L <= ((u2 * 4294967296 + u1) * 4294967296 + u0) * L := Nat.mul_le_mul_right _ (Nat.le_trans (Nat.mul_le_mul_right _ (Nat.le_trans (Nat.mul_le_mul_right _ (show v1 + 1 <= u2 by omega)) (Nat.le_add_right _ _))) (Nat.le_add_right _ _));exact Nat.le_trans this (Nat.le_add_right _ _)
    have h5 : natV v * 4294967296 <= (v1 + 1) * 4294967296 * 4294967296 * L := by
      have h6 : natV v <= (v1 + 1) * 4294967296 * L := by
        rw [e1];have : (v1 * 4294967296 + v2) * L + L <= (v1 + 1) * 4294967296 * L := by
          have := Nat.mul_le_mul_right L (show v1 * 4294967296 + v2 + 1 <= (v1 + 1) * 4294967296 by omega);rw [Nat.add_mul (v1 * 4294967296 + v2) 1 L, Nat.one_mul] at this;exact this
        omega
      calc natV v * 4294967296 <= (v1 + 1) * 4294967296 * L * 4294967296 := Nat.mul_le_mul_right _ h6
        _ = _ := by grind
    omega
structure Rc (u v:List Nat) (v1 high:Nat) where
 g:Nat
 r:Nat
 eq:g*v1+r=high
 ge:natV u/natV v<=g
 le:g<=4294967297
 hr:r<4294967296
omit h in
theorem Fc {a b c:Nat} (hb:0<b) (h:a<(c+1)*b):a/b<=c:=by
 have:=(Nat.div_lt_iff_lt_mul hb).2 h;omega
theorem uH.first: ∃k:Rc u v v1 (u2*4294967296+u1),k.g=(u2*4294967296+u1)/v1/\k.r=(u2*4294967296+u1)%v1:=by
 have ht:=h.top;have hb1:=h.bv1;have hm:=Nat.mod_lt (u2*4294967296+u1) (show 0<v1 by omega);have hd:=Nat.div_add_mod (u2*4294967296+u1) v1;have hle:=h.u2_le;have hu1:=h.bu1;have hL:0<4294967296^n:=Nat.pow_pos (by omega);refine⟨⟨(u2*4294967296+u1)/v1,(u2*4294967296+u1)%v1,by rw[Nat.mul_comm];exact hd,?_,?_,by omega⟩,rfl,rfl⟩
 ·rw[Nat.le_div_iff_mul_le (by omega)];have e1:=h.eV;have e2:=h.eU;have h1:=h.ul;have h2:=h.bu0;refine RF (U:=natV u) (V:=natV v) (L:=4294967296^n) ?_ ?_ (Nat.div_mul_le_self _ _) hL
  ·rw[e1];have:v1*4294967296*4294967296^n<=(v1*4294967296+v2)*4294967296^n:=Nat.mul_le_mul_right _ (by omega);omega
  rw[e2];have:((u2*4294967296+u1)*4294967296+u0)*4294967296^n+4294967296^n<=(u2*4294967296+u1+1)*4294967296*4294967296^n:=by
   have:=Nat.mul_le_mul_right (4294967296^n) (show(u2*4294967296+u1)*4294967296+u0+1<=(u2*4294967296+u1+1)*4294967296 by omega);rw[Nat.add_mul ((u2*4294967296+u1)*4294967296+u0) 1,Nat.one_mul]at this;exact this
  omega
 refine Fc (by omega) ?_;have:u2*4294967296<=v1*4294967296:=Nat.mul_le_mul_right _ hle;have e:(4294967297+1)*v1=v1*4294967296+2*v1:=by omega
 omega
theorem uH.down (k:Rc u v v1 (u2*4294967296+u1)) (hc:4294967296<=k.g\/k.r*4294967296+u0<k.g*v2):natV u/natV v<k.g:=by
 rcases hc with hc|hc
 ·have:=h.q_lt;omega
 have e1:=h.eV;have e2:=h.eU;have h1:=h.ul;refine RE (U:=natV u) (V:=natV v) (L:=4294967296^n) (high:=u2*4294967296+u1) ?_ ?_ (Nat.div_mul_le_self _ _) k.eq hc
 ·rw[e1];omega
 rw[e2,Nat.add_mul ((u2*4294967296+u1)*4294967296+u0) 1,Nat.one_mul];omega
theorem uH.near {g r:Nat} (heq:g*v1+r=u2*4294967296+u1) (hB:g<=4294967296) (hc:g*v2<=r*4294967296+u0):g<=natV u/natV v+1:=by
 have e1:=h.eV;have e2:=h.eU;have ht:=h.top;refine Mo (U:=natV u) (t3:=(u2*4294967296+u1)*4294967296+u0) e1 h.vl ?_ ?_ ?_ hB (by omega)
 ·rw[e2];omega
 ·have:=Nat.lt_div_mul_add (a:=natV u) h.vpos;rw[Nat.add_mul,Nat.one_mul];omega
 rw[<- heq];have e:g*(v1*4294967296+v2)=g*v1*4294967296+g*v2:=by grind
 have e':(g*v1+r)*4294967296=g*v1*4294967296+r*4294967296:=by grind
 omega
theorem uH.vlt:natV v<=4294967296^(n+2):=Nat.le_of_lt (by have:=f8 h.lv;rw[h.nv]at this;exact this)
theorem uH.right {g:Nat} (m:Lh u v g) (hi:m.i=n+2) (hge:natV u/natV v<=g) (hno:m.c+m.b<=u2):g=natV u/natV v/\m.us++[u2-(m.c+m.b)]=bL (n+3) (natV u%natV v):=by
 have hv:=m.val;rw[hi,List.take_of_length_le (by rw[h.nv];exact ae _)]at hv;have hU:=bv h.hu2;rw[List.take_of_length_le (by rw[h.nu];exact ae _)]at hU;have hml:m.us.length=n+2:=by rw[m.len,hi]
 have e:natV (m.us++[u2-(m.c+m.b)])+g*natV v=natV u:=by
  rw[mw,hml,hU];have:(u2-(m.c+m.b))*4294967296^(n+2)+(m.c+m.b)*4294967296^(n+2)=u2*4294967296^(n+2):=by
   rw[<- Nat.add_mul,Nat.sub_add_cancel hno]
  omega
 obtain⟨q1,q2⟩:=IY rfl hge e h.vpos;refine⟨q1,y9 (lR m.lmb ?_) (by simp[hml]) q2⟩;have:=h.bu2;omega
theorem uH.left {g t:Nat} (m:Lh u v g) (hi:m.i=n+2) (hle:g<=natV u/natV v+1) (hyes:u2<m.c+m.b) (ht:t=u2+4294967296-(m.c+m.b)) (a:Lm (m.us++[t]) v) (hai:a.i=n+2):
  g=natV u/natV v+1/\a.us++[(t+a.c)%4294967296]=bL (n+3) (natV u%natV v):=by
 have hv:=m.val;rw[hi,List.take_of_length_le (by rw[h.nv];exact ae _)]at hv;have hU:=bv h.hu2;rw[List.take_of_length_le (by rw[h.nu];exact ae _)]at hU;have hml:m.us.length=n+2:=by rw[m.len,hi]
 have hbu:=h.bu2;have hmc:=m.hc;have hmb:=m.hb;have hav:=a.val;have e0:(m.us++[t]).take (n+2)=m.us:=by rw[List.take_append_of_le_length (by omega),List.take_of_length_le (by omega)]
 rw[hai,e0,List.take_of_length_le (by rw[h.nv];exact ae _)]at hav;have hW:=f8 a.lmb;rw[a.len,hai]at hW;have e:natV m.us+t*4294967296^(n+2)+g*natV v=natV u+4294967296*4294967296^(n+2):=by
  rw[hU];have:t*4294967296^(n+2)+(m.c+m.b)*4294967296^(n+2)=(u2+4294967296)*4294967296^(n+2):=by
   rw[<- Nat.add_mul,ht,Nat.sub_add_cancel (by omega)]
  rw[Nat.add_mul u2]at this;omega
 have hlt:natV u<g*natV v:=by
  have h1:=f8 m.lmb;rw[hml]at h1;have h2:(u2+1)*4294967296^(n+2)<=(m.c+m.b)*4294967296^(n+2):=Nat.mul_le_mul_right _ (by omega);rw[Nat.add_mul u2 1,Nat.one_mul]at h2;omega
 obtain⟨q1,q2,q3⟩:=Mn (T:=natV m.us) (t:=t) (c:=a.c) (W:=natV a.us) (Bn:=4294967296^(n+2)) rfl hle e hlt h.vpos h.vlt hW rfl hav a.hc (by omega);refine⟨q1,y9 (lR a.lmb (Nat.mod_lt _ (by omega))) (by simp[a.len,hai]) ?_⟩;rw[mw,q2,q3];simp
end
end
theorem kM {pre u post:List Nat} {off i x:Nat} (hp:pre.length=off) (h:u[i]?=some x):(pre++(u++post))[off+i]?=some x:=by
 have hi:=(List.getElem?_eq_some_iff.1 h).1;rw[List.getElem?_append_right (by omega),hp,Nat.add_sub_cancel_left,List.getElem?_append_left hi,h]
theorem ry {pre u post:List Nat} {off i:Nat} (v:Nat) (hp:pre.length=off) (hi:i<u.length):(pre++(u++post)).set (off+i) v=pre++(u.set i v++post):=by
 rw[List.set_append_right _ _ (by omega),hp,Nat.add_sub_cancel_left,List.set_append_left _ _ hi]
theorem rA {us u:List Nat} {i:Nat} (v:Nat) (hus:us.length=i) (hi:i<u.length):(us++u.drop i).set i v=(us++[v])++u.drop (i+1):=by
 have hd:u.drop i=u[i]::u.drop (i+1):=List.drop_eq_getElem_cons hi;rw[hd,List.set_append_right _ _ (by omega),hus,Nat.sub_self,List.set_cons_zero,List.append_assoc];rfl
theorem xS {us u:List Nat} {i x:Nat} (hus:us.length=i) (hx:u[i]?=some x):(us++u.drop i)[i]?=some x:=by
 rw[List.getElem?_append_right (by omega),hus,Nat.sub_self,List.getElem?_drop,Nat.add_zero,hx]
theorem xU {us u:List Nat} {i:Nat} (hus:us.length=i) (hi:i<=u.length):(us++u.drop i).length=u.length:=by
 rw[List.length_append,hus,List.length_drop];omega
theorem Hr {P:Program} {k:Nat} {c z:Code} {Q:Exit->AS->Prop} {s:AS} (S:Nat->AS) (p:Nat->Prop) (h1:fK P k c (mc (fun s'=> ∃g,p g/\bW s' (S g)) Q) s) (h2: ∀g,p g->fK P k z Q (S g)):fK P k c (mc (fK P k z Q) Q) s:=h1.mono fun e s' h=>by
 cases e with
 |normal=>obtain⟨g,hp,hw⟩:=h;exact(h2 g hp).weak hw
 |_=>exact h
theorem SM (y lo b:Nat) (hy:y<4294967296) (hlo:lo<4294967296) (hb:b<=1):IntKind.u32.wrap (IntKind.u64.wrap (IntKind.u64.wrap ((y:Int)-(lo:Int))-(b:Int)))=(((y+8589934592-(lo+b))%4294967296:Nat):Int)/\
  Int.fdiv (IntKind.u64.wrap (IntKind.u64.wrap ((y:Int)-(lo:Int))-(b:Int))) (2^(min 63 IntKind.u64.bits))=(((if y<lo+b then 1 else 0):Nat):Int):=by
 constructor
 ·rw[IntKind.wrap_u32,IntKind.wrap_u64,IntKind.wrap_u64];omega
 rw[IntKind.wrap_u64,IntKind.wrap_u64];show Int.fdiv _ 9223372036854775808=_;rw[Int.fdiv_eq_ediv_of_nonneg _ (by omega)];split<;>omega
theorem uO (pre u post v:List Nat) (off n v1 v2 u2 u1 u0:Nat) (hp:pre.length=off) (H:uH u v n v1 v2 u2 u1 u0) (bR:(pre++(u++post)).length<=536870912):
  qo Tryz.prog 213 [.undef,bS v] 0 off (n+3) ⟨165,1,lc fU (pre++(u++post))⟩ ⟨165,1,lc fU (pre++(bL (n+3) (natV u%natV v)++post))⟩ (.raw (.int .u32 ((natV u/natV v:Nat):Int))):=by
 have nu:=H.nu;have nv:=H.nv;have hv1:=H.hv1;have hv2:=H.hv2;have bv1:=H.bv1;have bv2:=H.bv2;have bu2:=H.bu2;have bu1:=H.bu1;have bu0:=H.bu0;have top:=H.top;have hqlt:=H.q_lt;have hRl:(pre++(u++post)).length=off+(n+3)+post.length:=by simp[hp,nu];omega
 have gu2:=kM (post:=post) hp H.hu2;have gu1:=kM (post:=post) hp H.hu1;have gu0:=kM (post:=post) hp H.hu0;refine r9 Tryz.func213 rfl (by kernel_rfl) (by simp) (by omega) (by simp[lc]at hRl⊢;omega) (dJ _ _) rfl (by simp[lc,bE,nu]) (dJ _ _) rfl ?_;rw[Tryz.ntmps213];have e2:((n+2:Nat):Int)-1=((n+1:Nat):Int):=by omega
 have e3:((n+2:Nat):Int)-2=((n:Nat):Int):=by omega
 refine aV (by kernel_rfl) fun _ K=>?_;simp only[kd,bS,aa,af];apply K
 refine aV (by kernel_rfl) fun _ K=>?_;simp only[kd,aa,nv];apply K
 have a1:=uA (a:=u2) (s:=32) (by omega) (by omega);have a2:=Cn (u2*2^32) u1 (by omega) (by omega);rw[xD u2 u1 32 (by omega),show u2*2^32+u1=u2*4294967296+u1 from rfl]at a2;obtain⟨high,hhigh⟩: ∃high,high=u2*4294967296+u1:=⟨_,rfl⟩;rw[<- hhigh]at a2;obtain⟨k0,hk1,hk2⟩: ∃k:Rc u v v1 high,k.g=high/v1/\k.r=high%v1:=by rw[hhigh];exact H.first
 have hk3:=k0.le;have a3:Int.tdiv (high:Int) (v1:Int)=(k0.g:Int):=by rw[hk1];exact(Int.ofNat_tdiv _ _).symm
 have a4:Int.tmod (high:Int) (v1:Int)=(k0.r:Int):=by rw[hk2];exact(Int.ofNat_tmod _ _).symm
 generalize hR:pre++(u++post)=R at*
 refine gu bU (by kernel_rfl) (by kernel_rfl) fun _ K=>?_;simp(disch:=omega) only[kd,aa,famH,gu2,dM,Int.reduceLE,an,a1,e2,aM,gu1,a2];apply K
 refine gu bU (by kernel_rfl) (by kernel_rfl) fun _ K=>?_;simp(disch:=omega) only[kd,aa,e2,aM,hv1,dM,a3,a4];apply K
 refine cG (Hr (fun g=>⟨(.one (.sl 0 0 off (n+3))::bS v::jk::jk::jk::.raw (.int .i64 ((n+2:Nat):Int))::jk::.raw (.int .u64 (g:Int))::j16 (j16 (j16 (j16 (j16 (j16 (j16 (j16 (j16 (j16 (jk::jk::jk::[]))))))))))),Hm [(0,[⟨165,1,lc fU R⟩])]⟩) (fun g=>natV u/natV v<=g/\g<=natV u/natV v+1/\g<=4294967296) ?_ ?_)
 ·have H2:=H;subst hhigh;refine lw (G:=Rc u v v1 (u2*4294967296+u1)) (fun k=>⟨(.one (.sl 0 0 off (n+3))::bS v::jk::jk::jk::.raw (.int .i64 ((n+2:Nat):Int))::jk::.raw (.int .u64 (k.g:Int))::.raw (.int .u64 (k.r:Int))::j16 (j16 (j16 (j16 (j16 (j16 (j16 (j16 (j16 (j16 (jk::jk::[]))))))))))),Hm [(0,[⟨165,1,lc fU R⟩])]⟩) (fun k=>k.g) k0 ?_ ?_
  ·refine aF ⟨rfl,trivial⟩ ?_;simp[wk]
  intro k;have kg:=k.le;have kr:=k.hr;have keq:=k.eq;have kge:=k.ge;have e5:=Ot k.g
  -- the guess goes down
  have down:(4294967296<=k.g\/k.r*4294967296+u0<k.g*v2)->natV u/natV v<k.g:=H2.down k;have next:natV u/natV v<k.g->k.r+v1<4294967296-> ∃k':Rc u v v1 (u2*4294967296+u1),k'.g=k.g-1/\k'.r=k.r+v1:=fun h1 h2=>by
   refine⟨⟨k.g-1,k.r+v1,?_,by omega,by omega,h2⟩,rfl,rfl⟩;refine Eq.trans ?_ keq;have:k.g*v1=(k.g-1)*v1+v1:=by
    obtain⟨m,hm⟩: ∃m,k.g=m+1:=⟨k.g-1,(Nat.succ_pred_eq_of_pos (Nat.lt_of_le_of_lt (Nat.zero_le _) h1)).symm⟩;rw[hm,Nat.add_sub_cancel,Nat.add_mul,Nat.one_mul]
   omega
  have stop:natV u/natV v<k.g->4294967296<=k.r+v1->natV u/natV v<=k.g-1/\k.g-1<=natV u/natV v+1/\k.g-1<=4294967296:=fun h1 h2=>by
   refine⟨by omega,?_,by omega⟩;refine H2.near (r:=k.r+v1) ?_ (by omega) ?_
   ·refine Eq.trans ?_ keq;have:k.g*v1=(k.g-1)*v1+v1:=by
     obtain⟨m,hm⟩: ∃m,k.g=m+1:=⟨k.g-1,(Nat.succ_pred_eq_of_pos (Nat.lt_of_le_of_lt (Nat.zero_le _) h1)).symm⟩;rw[hm,Nat.add_sub_cancel,Nat.add_mul,Nat.one_mul]
    omega
   have h3:(k.g-1)*v2<=4294967296*4294967295:=Nat.mul_le_mul (by omega) (by omega);have h4:4294967296*4294967296<=(k.r+v1)*4294967296:=Nat.mul_le_mul_right _ h2;omega
  have e7:(k.g:Int)-1=((k.g-1:Nat):Int)\/k.g=0:=by omega
  have e8:(k.r:Int)+(v1:Int)=((k.r+v1:Nat):Int):=by omega
  have e9:=Ot (k.r+v1);by_cases hbig:4294967296<=k.g
  ·have hd:=down (.inl hbig)
   replace e7:=e7.resolve_right (by omega)
   refine cG (gu bU (by kernel_rfl) (by kernel_rfl) fun _ K=>?_);simp(disch:=omega) only[kd,aa,bS,Int.reduceLE,an,e5,reduceCtorEq];apply K;refine lj rfl (gU ?_);refine fE ?_;refine aV (by kernel_rfl) fun _ K=>?_;simp(disch:=omega) only[kd,aa,e7,dM];apply K
   refine aV (by kernel_rfl) fun _ K=>?_;simp(disch:=omega) only[kd,aa,e2,aM,hv1,dM,e8];apply K
   by_cases hover:4294967296<=k.r+v1
   ·refine aV (by kernel_rfl) fun _ K=>?_;simp(disch:=omega) only[kd,aa,Int.reduceLE,an,e9];apply K
    refine lj rfl (lk ?_);refine⟨k.g-1,stop hd hover,aF ⟨rfl,trivial⟩ ?_⟩;simp[wk]
   obtain⟨k',q1,q2⟩:=next hd (by omega);refine aV (by kernel_rfl) fun _ K=>?_;simp(disch:=omega) only[kd,aa,Int.reduceLE,an,e9];apply K
   refine m0 rfl (gU ?_);refine⟨k',by omega,aF ⟨rfl,trivial⟩ ?_⟩;simp[wk,q1,q2]
  have hmul:k.g*v2<=4294967295*4294967295:=Nat.mul_le_mul (by omega) (by omega);have e10:(k.g:Int)*(v2:Int)=((k.g*v2:Nat):Int):=by simp
  have e11:=uA (a:=k.r) (s:=32) (by omega) (by omega);have e12:=Cn (k.r*2^32) u0 (by omega) (by omega);rw[xD k.r u0 32 (by omega),show k.r*2^32+u0=k.r*4294967296+u0 from rfl]at e12;by_cases hc:k.r*4294967296+u0<k.g*v2
  ·have hd:=down (.inr hc)
   replace e7:=e7.resolve_right (fun e=>by rw[e]at hd;exact absurd hd (Nat.not_lt_zero _))
   generalize k.g*v2=gv at*
   refine cG (gu bU (by kernel_rfl) (by kernel_rfl) fun _ K=>?_);simp(disch:=omega) only[kd,aa,bS,Int.reduceLE,an,e5,e3,aM,hv2,dM,e10,e11,gu0,e12];apply K;refine lj rfl (gU ?_);refine fE ?_;refine aV (by kernel_rfl) fun _ K=>?_;simp(disch:=omega) only[kd,aa,e7,dM];apply K
   refine aV (by kernel_rfl) fun _ K=>?_;simp(disch:=omega) only[kd,aa,e2,aM,hv1,dM,e8];apply K
   by_cases hover:4294967296<=k.r+v1
   ·refine aV (by kernel_rfl) fun _ K=>?_;simp(disch:=omega) only[kd,aa,Int.reduceLE,an,e9];apply K
    refine lj rfl (lk ?_);refine⟨k.g-1,stop hd hover,aF ⟨rfl,trivial⟩ ?_⟩;simp[wk]
   obtain⟨k',q1,q2⟩:=next hd (by omega);refine aV (by kernel_rfl) fun _ K=>?_;simp(disch:=omega) only[kd,aa,Int.reduceLE,an,e9];apply K
   refine m0 rfl (gU ?_);refine⟨k',by omega,aF ⟨rfl,trivial⟩ ?_⟩;simp[wk,q1,q2]
  have hnear:=H2.near keq (by omega) (Nat.le_of_not_lt hc);generalize k.g*v2=gv at*
  refine cG (gu bU (by kernel_rfl) (by kernel_rfl) fun _ K=>?_);simp(disch:=omega) only[kd,aa,bS,Int.reduceLE,an,e5,e3,aM,hv2,dM,e10,e11,gu0,e12];apply K;refine m0 rfl (lk ?_);refine⟨k.g,⟨kge,hnear,by omega⟩,aF ⟨rfl,trivial⟩ ?_⟩;simp[wk]
 rintro g ⟨hg1,hg2,hg3⟩;subst hR;clear gu2 gu1 gu0 a1 a2 a3 a4 hk1 hk2 hk3 k0;refine aV (by kernel_rfl) fun _ K=>?_;simp only[kd,bS];apply K
 refine cG (aV (by kernel_rfl) fun _ K=>?_);simp only[kd];apply K;refine lw (G:=Lh u v g) (fun m=>⟨(.one (.sl 0 0 off (n+3))::bS v::jk::jk::jk::.raw (.int .i64 ((n+2:Nat):Int))::jk::.raw (.int .u64 (g:Int))::jk::.raw (.int .u64 (m.c:Int))::.raw (.int .u64 (m.b:Int))::j16 (j16 (j16 (j16 (j4 (jk::jk::jk::.raw (.int .i64 ((n+2:Nat):Int))::rN m.i::j16 (j16 (j16 (j16 (j16 (j4 (jk::jk::jk::[])))))))))))),Hm [(0,[⟨165,1,lc fU (pre++((m.us++u.drop m.i)++post))⟩])]⟩) (fun m=>n+2-m.i) (Lh.start u v g) ?_ ?_
 ·refine aF ⟨?_,trivial⟩ ?_
  ·simp[Hm,Lh.start]
  simp[wk,Lh.start]
 intro m;have hmi:=m.hi;have hmc:=m.hc;have hmb:=m.hb;have hml:=m.len;by_cases hlt:m.i<n+2
 ·obtain⟨x,hx⟩:=getElem?_of_lt (l:=v) (k:=m.i) (by omega);obtain⟨y,hy⟩:=getElem?_of_lt (l:=u) (k:=m.i) (by omega);have hx':=cH H.lv hx;have hy':=cH H.lu hy;obtain⟨c1,c2⟩:=zI hg3 hx' hmc;have hgx:g*x<=4294967296*4294967295:=Nat.mul_le_mul hg3 (by omega);have e4:(g:Int)*(x:Int)=((g*x:Nat):Int):=by simp
  have e5:(m.c:Int)+((g*x:Nat):Int)=((m.c+g*x:Nat):Int):=by simp
  have hseg:=xS hml hy;have hsl:=xU (u:=u) hml (by omega);have hget:=kM (post:=post) hp hseg;have hlo:(m.c+g*x)%4294967296<4294967296:=Nat.mod_lt _ (by omega);obtain⟨b1,b2⟩:=SM y ((m.c+g*x)%4294967296) m.b hy' hlo hmb;obtain⟨m',q1,q2,q3,q4⟩:=MC m (l:=(y+8589934592-((m.c+g*x)%4294967296+m.b))%4294967296) (b':=if y<(m.c+g*x)%4294967296+m.b then 1 else 0) hg3 hx hy H.lv (Nat.mod_lt _ (by omega)) (by split<;>omega) (by split<;>omega);have hset:=ry (post:=post) ((y+8589934592-((m.c+g*x)%4294967296+m.b))%4294967296) hp (show m.i<(m.us++u.drop m.i).length by omega);rw[rA _ hml (by omega)]at hset;have e6:=EE (m.c+g*x);have e7:=Ot (m.c+g*x);have hrl:(pre++((m.us++u.drop m.i)++post)).length=off+(n+3)+post.length:=by simp only[List.length_append]at hRl hsl⊢;omega
  generalize(m.c+g*x)%4294967296=lo at*
  generalize(m.c+g*x)/4294967296=hi' at*
  generalize g*x=gx at*
  generalize(if y<lo+m.b then 1 else 0:Nat)=nb at*
  generalize(y+8589934592-(lo+m.b))%4294967296=nl at*
  generalize hRR:pre++((m.us++u.drop m.i)++post)=RR at*
  refine aV (by kernel_rfl) fun _ K=>?_;simp(disch:=omega) only[kd,bS];apply K
  refine wM rfl ?_;refine cG (fE ?_);refine aV (by kernel_rfl) fun _ K=>?_;simp only[kd];apply K
  refine aV (by kernel_rfl) fun _ K=>?_;simp(disch:=omega) only[kd,aa,hx,dM,e4,e5];apply K
  refine aV (by kernel_rfl) fun _ K=>?_;simp(disch:=omega) only[kd,aa,hget,dM,e6];apply K
  refine aV (by kernel_rfl) fun _ K=>?_;simp(disch:=omega) only[kd,aa,b1,hget,dy,hset];apply K
  refine aV (by kernel_rfl) fun _ K=>?_;simp only[kd,aa,Int.reduceLE,an,e7];apply K
  refine dQ (by kernel_rfl) fun _ K=>?_;simp only[kd,aa,Int.reduceLE,an,b2];apply K
  show fK _ _ _ _ _;refine dQ (by kernel_rfl) fun _ K=>?_;simp(disch:=omega) only[kd,aM];apply K
  refine⟨m',by omega,aF ⟨?_,trivial⟩ ?_⟩
  ·rw[q1,q2];rfl
  simp[wk,q1,q3,q4]
 have hie:m.i=n+2:=by omega
 have hseg:(m.us++u.drop m.i)[n+2]?=some u2:=by
  have:=xS hml (show u[m.i]?=some u2 by rw[hie];exact H.hu2);rwa[hie]at this⊢
 have hsl:=xU (u:=u) hml (by omega);have hget:=kM (post:=post) hp hseg;have hset:=fun t=>ry (post:=post) t hp (show n+2<(m.us++u.drop m.i).length by omega)
 have hse: ∀t,(m.us++u.drop m.i).set (n+2) t=m.us++[t]:=fun t=>by
  have:=rA (u:=u) t hml (by omega);rw[List.drop_eq_nil_iff.2 (show u.length<=m.i+1 by omega),List.append_nil,hie]at this;rw[hie];exact this
 simp only[hse]at hset;obtain⟨b1,b2⟩:=SM u2 m.c m.b bu2 hmc hmb;have hrl:(pre++((m.us++u.drop m.i)++post)).length=off+(n+3)+post.length:=by simp only[List.length_append]at hRl hsl⊢;omega
 by_cases hno:m.c+m.b<=u2
 ·have b3:(u2:Int)-(m.c:Int)-(m.b:Int)=((u2-(m.c+m.b):Nat):Int):=by omega
  have b4:Int.fdiv ((u2-(m.c+m.b):Nat):Int) (2^(min 63 IntKind.u64.bits))=0:=by
   rw[C6 (by omega)];have:(u2-(m.c+m.b))/2^63=0:=Nat.div_eq_of_lt (by omega);rw[this];rfl
  have hnl:u2-(m.c+m.b)<4294967296:=by omega
  obtain⟨q1,q2⟩:=H.right m hie hg1 hno;have hs:=hset (u2-(m.c+m.b));rw[q2]at hs;have e7:IntKind.u32.wrap (g:Int)=((natV u/natV v:Nat):Int):=by rw[EE,q1];omega
  generalize u2-(m.c+m.b)=nl at*
  generalize hRR:pre++((m.us++u.drop m.i)++post)=RR at*
  refine aV (by kernel_rfl) fun _ K=>?_;simp(disch:=omega) only[kd,bS];apply K
  refine wL rfl ?_;show fK _ _ _ _ _;refine aV (by kernel_rfl) fun _ K=>?_;simp(disch:=omega) only[kd,aa,hget,dM,b3];apply K
  refine aV (by kernel_rfl) fun _ K=>?_;simp(disch:=omega) only[kd,aa,EF,hget,dy,hs];apply K
  refine cG (aV (by kernel_rfl) fun _ K=>?_);simp(disch:=omega) only[kd,aa,Int.reduceLE,an,b4];apply K;refine lj rfl ?_;refine aV (by kernel_rfl) fun _ K=>?_;simp only[kd,aa,e7];apply K
  refine nT ⟨.inr rfl,⟨(.one (.sl 0 0 off (n+3))::jk::jk::jk::.raw (.int .u32 ((natV u/natV v:Nat):Int))::j16 (j16 (j16 (j16 (j16 (j16 (j16 (j16 (j16 (j16 (j4 (jk::jk::[])))))))))))),Hm [(0,[⟨165,1,lc fU (pre++(bL (n+3) (natV u%natV v)++post))⟩])]⟩,aF ⟨rfl,trivial⟩ (by simp[wk]),rfl,fW _,?_⟩;simp(disch:=omega) only[kd,Tryz.results213]
 rw[if_pos (by omega)]at b2;obtain⟨t,ht⟩: ∃t,t=u2+4294967296-(m.c+m.b):=⟨_,rfl⟩;have ht4:t<4294967296:=by omega
 rw[show(u2+8589934592-(m.c+m.b))%4294967296=t by omega]at b1;have hs:=hset t;have lu':Lmb (m.us++[t]):=lR m.lmb ht4;have nu':(m.us++[t]).length=n+3:=by rw[List.length_append,hml,hie];rfl
 have hleft:=fun a hai=>H.left m hie hg2 (by omega) ht a hai
 have htop:(m.us++[t])[n+2]?=some t:=by rw[List.getElem?_append_right (by omega),hml,hie,Nat.sub_self];rfl
 clear hset hse hno ht;generalize hRR:pre++((m.us++u.drop m.i)++post)=RR at*
 refine aV (by kernel_rfl) fun _ K=>?_;simp(disch:=omega) only[kd,bS];apply K
 refine wL rfl ?_;show fK _ _ _ _ _;refine aV (by kernel_rfl) fun _ K=>?_;simp(disch:=omega) only[kd,aa,hget,dM];apply K
 refine aV (by kernel_rfl) fun _ K=>?_;simp(disch:=omega) only[kd,aa,b1,hget,dy,hs];apply K
 refine cG (aV (by kernel_rfl) fun _ K=>?_);simp(disch:=omega) only[kd,aa,Int.reduceLE,an,b2];apply K;refine m0 rfl (gU ?_);show fK _ _ _ _ _;refine aV (by kernel_rfl) fun _ K=>?_;simp only[kd];apply K
 refine cG (aV (by kernel_rfl) fun _ K=>?_);simp only[kd];apply K;refine lw (G:=Lm (m.us++[t]) v) (fun a=>⟨(.one (.sl 0 0 off (n+3))::bS v::jk::jk::jk::.raw (.int .i64 ((n+2:Nat):Int))::jk::.raw (.int .u64 (g:Int))::jk::.raw (.int .u64 (a.c:Int))::j16 (j16 (j16 (j16 (j16 (j16 (j16 (j4 (j4 (j4 (jk::.raw (.int .i64 ((n+2:Nat):Int))::rN a.i::j16 (j16 (jk::jk::[]))))))))))))),Hm [(0,[⟨165,1,lc fU (pre++((a.us++(m.us++[t]).drop a.i)++post))⟩])]⟩) (fun a=>n+2-a.i) (Lm.start _ _) ?_ ?_
 ·refine aF ⟨?_,trivial⟩ ?_
  ·simp[Hm,Lm.start,aJ]
  simp[wk,Lm.start]
 intro a;have hai:=a.hi;have hac:=a.hc;have hal:=a.len;generalize m.us++[t]=U' at*
 have hsl2:=xU (u:=U') hal (by omega);have hrl2:(pre++((a.us++U'.drop a.i)++post)).length=off+(n+3)+post.length:=by simp only[List.length_append]at hsl2⊢;omega
 by_cases hlt2:a.i<n+2
 ·obtain⟨x,hx⟩:=getElem?_of_lt (l:=v) (k:=a.i) (by omega);obtain⟨y,hy⟩:=getElem?_of_lt (l:=U') (k:=a.i) (by omega);have hx':=cH H.lv hx;have hy':=cH lu' hy;have hget2:=kM (post:=post) hp (xS hal hy);have hset2:=ry (post:=post) ((a.c+(y+x))%4294967296) hp (show a.i<(a.us++U'.drop a.i).length by omega);rw[rA _ hal (by omega)]at hset2;obtain⟨a',q1,q2,q3⟩:=LI a hx hy H.lv lu';have e4:(a.c:Int)+((y:Int)+(x:Int))=((a.c+(y+x):Nat):Int):=by omega
  have e6:=EE (a.c+(y+x));have e7:=Ot (a.c+(y+x));generalize(a.c+(y+x))%4294967296=nl at*
  generalize(a.c+(y+x))/4294967296=nc at*
  generalize hR2:pre++((a.us++U'.drop a.i)++post)=R2 at*
  refine aV (by kernel_rfl) fun _ K=>?_;simp(disch:=omega) only[kd,bS];apply K
  refine wM rfl ?_;refine cG (fE ?_);refine aV (by kernel_rfl) fun _ K=>?_;simp only[kd];apply K
  refine gu bU (by kernel_rfl) (by kernel_rfl) fun _ K=>?_;simp(disch:=omega) only[kd,aa,hget2,dM,hx,e4];apply K
  refine aV (by kernel_rfl) fun _ K=>?_;simp(disch:=omega) only[kd,aa,e6,hget2,dy,hset2];apply K
  refine dQ (by kernel_rfl) fun _ K=>?_;simp only[kd,aa,Int.reduceLE,an,e7];apply K
  show fK _ _ _ _ _;refine dQ (by kernel_rfl) fun _ K=>?_;simp(disch:=omega) only[kd,aM];apply K
  refine⟨a',by omega,aF ⟨?_,trivial⟩ ?_⟩
  ·rw[q1,q2];rfl
  simp[wk,q1,q3]
 have hae:a.i=n+2:=by omega
 obtain⟨q1,q2⟩:=hleft a hae;have hget2:(pre++((a.us++U'.drop a.i)++post))[off+(n+2)]?=some t:=by
  have:=kM (post:=post) hp (xS hal (show U'[a.i]?=some t by rw[hae];exact htop));rwa[hae]at this⊢
 have hset2:=ry (post:=post) ((t+a.c)%4294967296) hp (show a.i<(a.us++U'.drop a.i).length by omega);rw[rA _ hal (by omega),List.drop_eq_nil_iff.2 (show U'.length<=a.i+1 by omega),List.append_nil,q2,hae]at hset2;have e4:IntKind.u32.wrap ((t:Int)+(a.c:Int))=(((t+a.c)%4294967296:Nat):Int):=by rw[<- EE];congr 1<;>omega
 have e5:(g:Int)-1=((natV u/natV v:Nat):Int):=by rw[q1];simp
 have e6:IntKind.u32.wrap ((natV u/natV v:Nat):Int)=((natV u/natV v:Nat):Int):=by rw[EE];congr 1;exact Nat.mod_eq_of_lt hqlt
 have e8:IntKind.u64.wrap ((natV u/natV v:Nat):Int)=((natV u/natV v:Nat):Int):=by
  generalize natV u/natV v=qq at*
  rw[IntKind.wrap_u64];omega
 have hRe:pre++((a.us++U'.drop a.i)++post)=pre++((a.us++U'.drop (n+2))++post):=by rw[hae]
 generalize(t+a.c)%4294967296=nl at*
 rw[<- hRe]at hset2;generalize hR2:pre++((a.us++U'.drop a.i)++post)=R2 at*
 refine aV (by kernel_rfl) fun _ K=>?_;simp(disch:=omega) only[kd,bS];apply K
 refine wL rfl ?_;show fK _ _ _ _ _;refine aV (by kernel_rfl) fun _ K=>?_;simp(disch:=omega) only[kd,aa,hget2,EF,e4,dy,hset2];apply K
 refine aV (by kernel_rfl) fun _ K=>?_;simp only[kd,aa,e5,e8,e6];apply K
 refine nT ⟨.inr rfl,⟨(.one (.sl 0 0 off (n+3))::jk::jk::jk::.raw (.int .u32 ((natV u/natV v:Nat):Int))::j16 (j16 (j16 (j16 (j16 (j16 (j16 (j16 (j16 (j16 (j4 (jk::jk::[])))))))))))),Hm [(0,[⟨165,1,lc fU (pre++(bL (n+3) (natV u%natV v)++post))⟩])]⟩,aF ⟨rfl,trivial⟩ (by simp[wk]),rfl,fW _,?_⟩;simp(disch:=omega) only[kd,Tryz.results213]
section
theorem lZ: ∀(k n x:Nat),bL (k+n) x=bL k x++bL n (x/4294967296^k)
 |0,n,x=>by simp[bL]
 |k+1,n,x=>by
  rw[show k+1+n=(k+n)+1 by omega,bL,lZ k n,bL,Nat.div_div_eq_div_mul,Nat.pow_succ,Nat.mul_comm 4294967296];rfl
theorem tw: ∀(k x:Nat),bL k (x%4294967296^k)=bL k x
 |0,x=>rfl
 |k+1,x=>by
  rw[bL,bL,Nat.pow_succ,Nat.mul_comm (4294967296^k),Nat.mod_mul_right_mod,Nat.mod_mul_right_div_self,tw k]
theorem oT (k n x y:Nat) (hx:x<4294967296^k):bL (k+n) (y*4294967296^k+x)=bL k x++bL n y:=by
 have hp:0<4294967296^k:=Nat.pow_pos (by omega);rw[lZ,<- tw k (y*4294967296^k+x),Nat.mul_comm y,Nat.mul_add_mod,Nat.mod_eq_of_lt hx,Nat.mul_add_div hp,Nat.div_eq_of_lt hx,Nat.add_zero]
theorem vX: ∀n,bL n 0=af n 0
 |0=>rfl
 |n+1=>by rw[bL,Nat.zero_mod,Nat.zero_div,vX n];rfl
def dV (A V k:Nat):Nat:=A%(V*4294967296^k)
def j8 (A V k:Nat):Nat:=A/(V*4294967296^k)*4294967296^k
section
variable {A V k:Nat} (hV:0<V)
include hV
theorem J6 : dV A V (k + 1) / 4294967296 ^ k < V * 4294967296 := by
  have hp : 0 < 4294967296 ^ k := Nat.pow_pos (by omega);rw [Nat.div_lt_iff_lt_mul hp];have := Nat.mod_lt A (show 0 < V * 4294967296 ^ (k + 1) from Nat.mul_pos hV (Nat.pow_pos (by omega)));rw [Nat.pow_succ] at this;unfold dV;rw [Nat.pow_succ]
  calc _ < V * (4294967296 ^ k * 4294967296) := this
    _ = _ := by grind
omit hV in
theorem J8:dV A V k=dV A V (k+1)/4294967296^k%V*4294967296^k+dV A V (k+1)%4294967296^k:=by
 unfold dV;have e:V*4294967296^(k+1)=V*4294967296^k*4294967296:=by rw[Nat.pow_succ];grind
 have h1:A%(V*4294967296^k)=A%(V*4294967296^(k+1))%(V*4294967296^k):=by rw[e,Nat.mod_mul_right_mod]
 rw[h1];generalize A%(V*4294967296^(k+1))=x;rw[Nat.mul_comm V,Nat.mod_mul];generalize 4294967296^k=p;rw[Nat.add_comm,Nat.mul_comm p]
theorem JZ:j8 A V k=j8 A V (k+1)+dV A V (k+1)/4294967296^k/V*4294967296^k:=by
 unfold j8 dV;have hp:0<4294967296^k:=Nat.pow_pos (by omega);have e:V*4294967296^(k+1)=V*4294967296^k*4294967296:=by rw[Nat.pow_succ];grind
 have h1:=Nat.div_add_mod A (V*4294967296^(k+1));generalize hq:A/(V*4294967296^(k+1))=q at*
 generalize hr:A%(V*4294967296^(k+1))=r at*
 have h2:A/(V*4294967296^k)=q*4294967296+r/4294967296^k/V:=by
  rw[<- h1,e,Nat.mul_assoc (V*4294967296^k),Nat.mul_add_div (Nat.mul_pos hV hp),Nat.div_div_eq_div_mul,Nat.mul_comm (4294967296^k) V,Nat.mul_comm 4294967296]
 rw[h2,Nat.pow_succ];grind
theorem oY:dV A V (k+1)/4294967296^k/V<4294967296:=by
 rw[Nat.div_lt_iff_lt_mul hV,Nat.mul_comm];exact J6 hV
end
theorem MY {A V k m:Nat} (hV:0<V) (hk:k<m) (hb:j8 A V (k+1)<4294967296^m):(bL m (j8 A V (k+1))).set k (dV A V (k+1)/4294967296^k/V)=bL m (j8 A V k):=by
 have hd:=oY (A:=A) (k:=k) hV;rw[JZ (A:=A) (k:=k) hV];generalize dV A V (k+1)/4294967296^k/V=d at*
 obtain⟨q,hq⟩: ∃q,j8 A V (k+1)=q*4294967296^(k+1):=⟨_,rfl⟩;rw[hq];obtain⟨r,rfl⟩: ∃r,m=k+(1+r):=⟨m-(k+1),by omega⟩;have e1:q*4294967296^(k+1)=(q*4294967296)*4294967296^k+0:=by rw[Nat.pow_succ];grind
 have e2:q*4294967296^(k+1)+d*4294967296^k=(q*4294967296+d)*4294967296^k+0:=by rw[Nat.pow_succ];grind
 have hp:0<4294967296^k:=Nat.pow_pos (by omega);rw[e2,oT _ _ _ _ hp,e1,oT _ _ _ _ hp,List.set_append_right _ _ (by rw[bE];exact ae _),bE,Nat.sub_self,Nat.add_comm 1 r,bL,bL,List.set_cons_zero];have a1:(q*4294967296+d)%4294967296=d:=by omega
 have a2:(q*4294967296+d)/4294967296=q*4294967296/4294967296:=by omega
 rw[a1,a2]
theorem M8 {A V k nb na:Nat} (hk:k+nb<=na):bL (na+1) (dV A V (k+1))=bL k (dV A V (k+1))++(bL (nb+1) (dV A V (k+1)/4294967296^k)++bL (na-(k+nb)) (dV A V (k+1)/4294967296^(k+nb+1))):=by
 conv=>lhs;rw[show na+1=k+((nb+1)+(na-(k+nb))) by omega]
 rw[lZ,lZ,Nat.div_div_eq_div_mul,<- Nat.pow_add,show k+(nb+1)=k+nb+1 by omega]
theorem J7 {A V k nb na:Nat} (hV:0<V) (hVB:V<=4294967296^nb) (hk:k+nb<=na):bL k (dV A V (k+1))++(bL (nb+1) (dV A V (k+1)/4294967296^k%V)++bL (na-(k+nb)) (dV A V (k+1)/4294967296^(k+nb+1)))=bL (na+1) (dV A V k):=by
 have hp:0<4294967296^k:=Nat.pow_pos (by omega);have hz:dV A V (k+1)/4294967296^(k+nb+1)=0:=by
  apply Nat.div_eq_of_lt;have:=Nat.mod_lt A (show 0<V*4294967296^(k+1)from Nat.mul_pos hV (Nat.pow_pos (by omega)));unfold dV;refine Nat.lt_of_lt_of_le this ?_;have e:4294967296^(k+nb+1)=4294967296^nb*4294967296^(k+1):=by rw[<- Nat.pow_add];congr 1;omega
  rw[e];exact Nat.mul_le_mul_right _ hVB
 have hm:=Nat.mod_lt (dV A V (k+1)/4294967296^k) hV;rw[J8 (A:=A) (V:=V) (k:=k),hz];generalize dV A V (k+1)/4294967296^k%V=u at*
 rw[<- tw k (dV A V (k+1))];have hx:=Nat.mod_lt (dV A V (k+1)) hp;generalize dV A V (k+1)%4294967296^k=x at*
 have hu:u<4294967296^(nb+1):=by
  have:4294967296^nb<=4294967296^(nb+1):=Nat.pow_le_pow_right (by omega) (by omega);omega
 rw[show na+1=k+((nb+1)+(na-(k+nb))) by omega,oT _ _ _ _ hx]
 congr 1
 have:=oT (nb+1) (na-(k+nb)) u 0 hu;rw[Nat.zero_mul,Nat.zero_add]at this;exact this.symm
/-! The shift. -/
theorem qw: ∀(x:Nat),x≠0->x<18446744073709551616->1<=Lib.bitLen x/\2^(Lib.bitLen x-1)<=x/\x<2^Lib.bitLen x:=fun x=>by
 induction x using Nat.strongRecOn with
 |_ x ih=>
  intro h0 hx;have hh:=Lib.bitLen_half x h0 hx;by_cases h1:x/2=0
  ·have hx1:x=1:=by omega
   subst hx1;have:Lib.bitLen 1=1:=by decide
   rw[this];exact⟨by omega,by decide,by decide⟩
  obtain⟨q1,q2,q3⟩:=ih (x/2) (by omega) h1 (by omega);rw[hh];refine⟨by omega,?_,?_⟩
  ·rw[show 1+Lib.bitLen (x/2)-1=(Lib.bitLen (x/2)-1)+1 by omega,Nat.pow_succ];omega
  rw[Nat.add_comm,Nat.pow_succ];omega
def lz (x:Nat):Nat:=32-Lib.bitLen x
theorem Mx {x : Nat} (h0 : x ≠ 0) (hx : x < 4294967296) : lz x < 32 /\ 2147483648 <= x * 2 ^ lz x /\ x * 2 ^ lz x < 4294967296 := by
  obtain ⟨h1, h2, h3⟩ := qw x h0 (by omega);have h4 := Lib.bitLen_le x 32 (by omega) (by simpa using hx);unfold lz;refine ⟨by omega, ?_, ?_⟩
  · calc 2147483648 = 2 ^ (Lib.bitLen x - 1) * 2 ^ (32 - Lib.bitLen x) := by
          rw [<- Nat.pow_add, show Lib.bitLen x - 1 + (32 - Lib.bitLen x) = 31 by omega]
      _ <= _ := Nat.mul_le_mul_right _ h2
  · calc x * 2 ^ (32 - Lib.bitLen x) < 2 ^ Lib.bitLen x * 2 ^ (32 - Lib.bitLen x) := Nat.mul_lt_mul_of_pos_right h3 (Nat.two_pow_pos _)
      _ = 4294967296 := by rw [<- Nat.pow_add, show Lib.bitLen x + (32 - Lib.bitLen x) = 32 by omega]
theorem Nj {b n x s : Nat} (hl : (aY b).length = n + 1) (hx : (aY b)[n]? = some x) (hs : 2147483648 <= x * 2 ^ s /\ x * 2 ^ s < 4294967296) (hs32 : s < 32) :
    b * 2 ^ s < 4294967296 ^ (n + 1) /\ 2147483648 * 4294967296 ^ n <= b * 2 ^ s := by
  have h1 := bv hx;rw [List.take_of_length_le (by omega), a8] at h1;have h2 := fc (bK b) n;have hp : 0 < 4294967296 ^ n := Nat.pow_pos (by omega);have hps := zS hs32;constructor
  · -- b < (x + 1) B^n, and (x + 1) 2^s <= B, for x 2^s < B and 2^s divides B
    have h3 : (x + 1) * 2 ^ s <= 4294967296 := by
      have e : 4294967296 = 2 ^ (32 - s) * 2 ^ s := by rw [<- Nat.pow_add, show 32 - s + s = 32 by omega]
      rw [e] at hs ⊢;exact Nat.mul_le_mul_right _ (Nat.lt_of_mul_lt_mul_right hs.2)
    calc b * 2 ^ s < (x + 1) * 4294967296 ^ n * 2 ^ s := by
          refine Nat.mul_lt_mul_of_pos_right ?_ (Nat.two_pow_pos s);rw [h1, Nat.add_mul, Nat.one_mul]; omega
      _ = (x + 1) * 2 ^ s * 4294967296 ^ n := by grind
      _ <= 4294967296 * 4294967296 ^ n := Nat.mul_le_mul_right _ h3
      _ = 4294967296 ^ (n + 1) := by rw [Nat.pow_succ, Nat.mul_comm]
  · calc 2147483648 * 4294967296 ^ n <= x * 2 ^ s * 4294967296 ^ n := Nat.mul_le_mul_right _ hs.1
      _ = x * 4294967296 ^ n * 2 ^ s := by grind
      _ <= b * 2 ^ s := Nat.mul_le_mul_right _ (by omega)
end
theorem PM {A V k n : Nat} (hV1 : V < 4294967296 ^ (n + 2)) (hV2 : 2147483648 * 4294967296 ^ (n + 1) <= V) : ∃ v1 v2 u2 u1 u0, uH (bL (n + 3) (dV A V (k + 1) / 4294967296 ^ k)) (bL (n + 2) V) n v1 v2 u2 u1 u0 /\ natV (bL (n + 3) (dV A V (k + 1) / 4294967296 ^ k)) = dV A V (k + 1) / 4294967296 ^ k /\ natV (bL (n + 2) V) = V := by
  have hp : 0 < 4294967296 ^ (n + 1) := Nat.pow_pos (by omega);have hV : 0 < V := by omega
  have hr := J6 (A := A) (k := k) hV;have hlt : dV A V (k + 1) / 4294967296 ^ k < 4294967296 ^ (n + 3) := by
    calc _ < V * 4294967296 := hr
      _ <= 4294967296 ^ (n + 2) * 4294967296 := Nat.mul_le_mul_right _ (Nat.le_of_lt hV1)
      _ = _ := (Nat.pow_succ ..).symm
  refine ⟨_, _, _, _, _, ⟨lQ _ _, lQ _ _, bE _ _, bE _ _, eJ (by omega), eJ (by omega), eJ (by omega), eJ (by omega), eJ (by omega), ?_, ?_⟩, fd hlt, fd hV1⟩
  · have h1 : V / 4294967296 ^ (n + 1) < 4294967296 := by
      rw [Nat.div_lt_iff_lt_mul hp];have : 4294967296 ^ (n + 2) = 4294967296 ^ (n + 1) * 4294967296 := Nat.pow_succ ..;omega
    rw [Nat.mod_eq_of_lt h1, Nat.le_div_iff_mul_le hp];exact hV2
  · rw [fd hlt, fd hV1]; exact hr
theorem Gc {a b s n m:Nat} (ha:a<4294967296^(n+2+m)) (hb:4294967296^(n+1)<=b):dV (a*2^s) (b*2^s) (m+1)=a*2^s/\j8 (a*2^s) (b*2^s) (m+1)=0:=by
 have h1:a*2^s<b*2^s*4294967296^(m+1):=by
  have h2:4294967296^(n+2+m)<=b*4294967296^(m+1):=by
   have e:4294967296^(n+2+m)=4294967296^(n+1)*4294967296^(m+1):=by rw[<- Nat.pow_add];congr 1;omega
   rw[e];exact Nat.mul_le_mul_right _ hb
  rw[Nat.mul_right_comm];exact Nat.mul_lt_mul_of_pos_right (Nat.lt_of_lt_of_le ha h2) (Nat.two_pow_pos s)
 unfold dV j8;rw[Nat.mod_eq_of_lt h1,Nat.div_eq_of_lt h1,Nat.zero_mul];exact⟨rfl,rfl⟩
theorem M7 {a b s:Nat}:dV (a*2^s) (b*2^s) 0=a%b*2^s/\j8 (a*2^s) (b*2^s) 0=a/b:=by
 unfold dV j8;rw[Nat.pow_zero,Nat.mul_one,Nat.mul_one,Nat.mul_mod_mul_right,Nat.mul_div_mul_right _ _ (Nat.two_pow_pos s)];exact⟨rfl,rfl⟩
theorem Qa {A V k m:Nat} (hA:A<V*4294967296^m) (hk:k<=m):j8 A V k<4294967296^m:=by
 have hp:0<4294967296^k:=Nat.pow_pos (by omega);unfold j8;have h1:A/(V*4294967296^k)<4294967296^(m-k):=by
  rw[<- Nat.div_div_eq_div_mul];apply Nat.div_lt_of_lt_mul;apply Nat.div_lt_of_lt_mul;have e:4294967296^m=4294967296^k*4294967296^(m-k):=by rw[<- Nat.pow_add];congr 1;omega
  rw[e]at hA;exact hA
 have e:4294967296^m=4294967296^(m-k)*4294967296^k:=by rw[<- Nat.pow_add];congr 1;omega
 rw[e];exact Nat.mul_lt_mul_of_pos_right h1 hp
theorem AE {b n:Nat} (h:(aY b).length=n+1): ∃x,(aY b)[n]?=some x/\x≠0/\x<4294967296/\4294967296^n<=b:=by
 obtain⟨x,hx⟩: ∃x,(aY b)[n]?=some x:=⟨(aY b)[n],by simp[h]⟩;have hc:=dD b;unfold nN at hc;rw[List.getLast?_eq_getElem?,h,Nat.add_sub_cancel,hx]at hc;have hx0:x≠0:=fun e=>hc (by rw[e])
 have h1:=bv hx;rw[List.take_of_length_le (by omega),a8]at h1;refine⟨x,hx,hx0,cH (bK b) hx,?_⟩;rw[h1];have:1*4294967296^n<=x*4294967296^n:=Nat.mul_le_mul_right _ (by omega);omega
theorem Fz {b:Nat} (h:(aY b).length=1):(aY b)[0]?=some b/\b<4294967296:=by
 obtain⟨x,hx,_,hx',_⟩:=AE (n:=0) h;have h1:=bv hx;rw[List.take_of_length_le (by omega),a8]at h1;simp[natV]at h1;subst h1;exact⟨hx,hx'⟩
theorem zz (a:Nat):a<4294967296^(aY a).length:=by
 have:=f8 (bK a);rwa[a8]at this
theorem F4 {n m x:Nat} (h:n<=m):(bL m x).take n=bL n x:=by
 obtain⟨d,rfl⟩: ∃d,m=n+d:=⟨m-n,by omega⟩;rw[lZ,List.take_left' (bE _ _)]
theorem RC (x:Nat) (h:x<4294967296):CallC Tryz.prog 211 [.raw (.int .u32 (x:Int))] ⟨[],.raw (.int .i64 (lz x:Int))⟩:=by
 refine jW (by kernel_rfl) fun X w vs hX hvs ha=>?_
 obtain⟨v0,e0,r0⟩:=rX ha (j:=0) rfl;obtain⟨rfl,_⟩:=bs (ρ:=fun _ _=>none) (H:=fun _=>[]) r0;obtain rfl:vs= #[.int .u32 (x:Int)]:=by
  apply Array.ext_getElem?;intro j
  match j with
  |0=>exact e0
  |j+1=>rw[Array.getElem?_eq_none (by simp at hvs;omega)];rfl
 have hb:=Lib.bitLen_le x 32 (by omega) (by simpa using h);have e:(32-(Lib.bitLen (x:Int).toNat:Int))=(lz x:Int):=by rw[Int.toNat_natCast];unfold lz;omega
 have:=Any.bits_LeadingZeros32 Tryz.lays133 (x:Int) w (by omega) (by omega);rw[e]at this;exact this.mono fun e w' ⟨h1,h2⟩=>⟨_,h1,fun ρ H Y=>b7 rfl,by rw[h2];exact Ext.refl _⟩
theorem E4 {P:Program} {f:FuncId} {args:List TV} {l:List Nat} (hl:0<l.length) (hc:callable P f=true) (h: ∀(X:Nat->Prop) (w:World) (vs:Array Value),(∀b,X b->b<w.heap.size)->vs.size=args.length->
  (∀(j:Nat) t,args[j]?=some t-> ∃v:Value,vs[j]?=some v/\t.rel (fun _ _=>none) (fun _=>[]) X w v)->Calls P f vs w fun e w'=> ∃v,e= .returned v/\w'.ownsRow w.heap.size 165 1 v l.length ((l.map fun n:Nat=>(n:Int)).map (Value.int .u32))/\Ext w w'):CallC P f args ⟨[⟨165,1,lc fU l⟩],.one (.sl 0 0 0 l.length)⟩:=
 ⟨hc,fun X w vs hX hvs ha=>(h X w vs hX hvs ha).mono fun e w' ⟨v,h1,⟨_,h2⟩,h3⟩=>by
  rcases h2 with⟨_,hn⟩|⟨g,cap,cur,hv,hg,hh,hnc,hm2,hs,ht⟩
  ·omega
  have hr:rho1 g cap 0 0=some (g,cap):=by simp[rho1]
  have hcell: ∀(i:Nat) z,l[i]?=some z->cur[i]?=some (.int .u32 (z:Int)):=fun i z hz=>by
   have h3:((l.map fun n:Nat=>(n:Int)).map (Value.int .u32))[i]?=some (.int .u32 (z:Int)):=by rw[az,az,hz];rfl
   rw[<- ht,List.getElem?_take]at h3;split at h3
   ·simpa using h3
   cases h3
  refine⟨v,h1,rho1 g cap,⟨zb h3,fun a r o ho=>?_,fun a r a' r' o o' b c c' ho ho' _ _=>?_,fun a r o b c ho hb=>?_,fun b hb=>Nat.lt_of_lt_of_le (hX b hb) h3.size,fun a r o ho=>?_⟩,?_⟩
  ·obtain⟨rfl,rfl,rfl⟩:=ox ho;refine⟨fun e he=>?_,Nat.zero_lt_one,?_⟩
   ·obtain⟨z,_,rfl⟩:=List.mem_map.1 he;rfl
   rw[hr];refine⟨cur,hh,hs,by rw[jK];exact hnc,hm2,fun i e j x he hx=>?_⟩;simp only at he;rw[xn]at he;obtain⟨z,hz,rfl⟩:=Option.map_eq_some_iff.1 he;cases j with
   |succ j=>simp[fU]at hx
   |zero=>
    simp[fU]at hx;subst hx;exact⟨.int .u32 (z:Int),by rw[Nat.mul_one,Nat.add_zero];exact hcell i z hz,rfl,bX.raw _ rfl⟩
  ·obtain⟨rfl,rfl,_⟩:=ox ho;obtain⟨rfl,rfl,_⟩:=ox ho';exact⟨rfl,rfl⟩
  ·obtain⟨rfl,rfl,_⟩:=ox ho;rw[hr]at hb;injection hb with hb
   injection hb with hb _
   subst hb;exact⟨.inl hg,fun hX'=>absurd (hX _ hX') (by omega)⟩
  ·obtain⟨rfl,rfl,rfl⟩:=ox ho;exact dj (dJ _ _)
  exact⟨_,rfl,by simp[jK],.inr ⟨g,cap,cap,hr,by rw[hv];simp,hnc,fun _=>rfl⟩⟩⟩
theorem Fs (l:List Nat) (h0:0<l.length) (hl:l.length<=1073741824):CallC Tryz.prog 209 [bS l] ⟨[⟨165,1,lc fU l⟩],.one (.sl 0 0 0 l.length)⟩:=by
 refine E4 h0 (by kernel_rfl) fun X w vs hX hvs ha=>?_
 obtain⟨v0,e0,r0⟩:=rX ha (j:=0) rfl;obtain⟨A,c,rfl,hc,hR⟩:=Eg r0;obtain rfl:vs= #[.slice A l.length c]:=by
  apply Array.ext_getElem?;intro j
  match j with
  |0=>exact e0
  |j+1=>rw[Array.getElem?_eq_none (by simp at hvs;omega)];rfl
 have hlen:(l.map fun n:Nat=>(n:Int)).length=l.length:=List.length_map _;have:=se A c (l.map fun n:Nat=>(n:Int)) w hR (by rw[hlen];omega);rw[hlen]at this;exact this
theorem sM (a:Int) (h0:0<=a) (h1:a<=4611686018427387904):CallC Tryz.prog 185 [.raw (.int .u64 a)] ⟨[],.raw (.int .i64 (Lib.bitLen a.toNat:Int))⟩:=by
 refine jW (by kernel_rfl) fun X w vs hX hvs ha=>?_
 obtain⟨v0,e0,r0⟩:=rX ha (j:=0) rfl;obtain⟨rfl,_⟩:=bs (ρ:=fun _ _=>none) (H:=fun _=>[]) r0;obtain rfl:vs= #[.int .u64 a]:=by
  apply Array.ext_getElem?;intro j
  match j with
  |0=>exact e0
  |j+1=>rw[Array.getElem?_eq_none (by simp at hvs;omega)];rfl
 exact(Any.bits_Len64 Tryz.lays129 a w h0 (by omega)).mono fun e w' ⟨h1,h2⟩=>⟨_,h1,fun ρ H Y=>b7 rfl,by rw[h2];exact Ext.refl _⟩
/-! Newton's steps. -/
theorem sP:isqF 0=0:=(cz (Int.le_refl 0)).uniq ⟨Int.le_refl _,by decide,by decide⟩
theorem lL {a:Int} (h0:0<=a) (h1:a<=4611686018427387904):0<=isqF a/\isqF a<=2147483648:=by
 obtain⟨s0,s1,s2⟩:=cz h0;refine⟨s0,Int.le_of_not_gt fun h=>?_⟩;have:=Int.mul_le_mul (show 2147483649<=isqF a by omega) (show 2147483649<=isqF a by omega) (by omega) s0;omega
theorem pZ {a r s:Int} (hs:EG a s) (h0:0<r):s<=(r+a/r)/2:=by
 obtain⟨s0,s1,s2⟩:=hs;refine Int.le_ediv_of_mul_le (by omega) (Int.le_of_not_gt fun h=>?_);have h1:a/r<=2*s-1-r:=by omega
 have h2:a<(a/r+1)*r:=Int.lt_ediv_add_one_mul_self a h0;have h3:(a/r+1)*r<=(2*s-r)*r:=Int.mul_le_mul_of_nonneg_right (by omega) (by omega);have h4:0<=(s-r)*(s-r):=by
  rcases Int.le_total 0 (s-r)with h|h
  ·exact Int.mul_nonneg h h
  exact Int.mul_nonneg_of_nonpos_of_nonpos h h
 have h5:(2*s-r)*r=s*s-(s-r)*(s-r):=by grind
 omega
theorem nA {a r s:Int} (hs:EG a s) (h0:0<r) (h1:s<=r) (h:r<=(r+a/r)/2):r=s:=by
 have h2:r<=a/r:=by omega
 have h3:r*r<=a:=(Int.le_ediv_iff_mul_le h0).1 h2;have:=(oG hs).1 h3;omega
theorem kK {a:Int} (h0:0<a) (h1:a<=4611686018427387904):(Lib.bitLen a.toNat:Int)<=63/\isqF a<=((2^((Lib.bitLen a.toNat+1)/2):Nat):Int)/\2^((Lib.bitLen a.toNat+1)/2)<=4294967296:=by
 have hb:=Lib.bitLen_le a.toNat 63 (by omega) (by
  have:(2:Nat)^63=9223372036854775808:=by decide
  omega)
 have hl:a.toNat<2^Lib.bitLen a.toNat:=(qw a.toNat (by omega) (by omega)).2.2;obtain⟨s0,s1,s2⟩:=cz (show 0<=a by omega);refine⟨by omega,?_,?_⟩
 ·generalize hm:(Lib.bitLen a.toNat+1)/2=m at*
  refine Int.le_of_not_gt fun h=>?_
  have h2:a.toNat<2^m*2^m:=by
   rw[<- Nat.pow_add];exact Nat.lt_of_lt_of_le hl (Nat.pow_le_pow_right (by omega) (by omega))
  generalize 2^m=p at*
  have h3:=Int.mul_le_mul (show(p:Int)<=isqF a by omega) (show(p:Int)<=isqF a by omega) (by omega) s0;have h4:((p*p:Nat):Int)=(p:Int)*(p:Int):=Int.natCast_mul _ _;omega
 exact Nat.pow_le_pow_right (by omega) (show(Lib.bitLen a.toNat+1)/2<=32 by omega)
structure Sm (a:Int) where
 r:Nat
 h0:0<r
 h1:isqF a<=(r:Int)
 h2:r<=4294967296
theorem IF {a b:Int} (hb:0<b):a/b=if Int.tmod a b<0 then Int.tdiv a b-1 else Int.tdiv a b:=by
 have h1:=Int.mul_tdiv_add_tmod a b;have h2:=Int.tmod_lt_of_pos a hb;have h3: -b<Int.tmod a b:=by
  have:=Int.lt_tmod_of_pos a hb;omega
 split
 ·rename_i h;refine(Int.ediv_emod_unique (r:=Int.tmod a b+b) hb).2 ⟨?_,by omega,by omega⟩|>.1;rw[Int.mul_sub];omega
 rename_i h;exact((Int.ediv_emod_unique (r:=Int.tmod a b) hb).2 ⟨by omega,by omega,by omega⟩).1
theorem Ej (a:Int) (h0:0<=a) (h1:a<=4611686018427387904):CallC Tryz.prog 189 [.raw (.int .i64 a)] ⟨[],.raw (.int .i64 (isqF a))⟩:=by
 by_cases hz:a=0
 ·subst hz;rw[sP];refine aK Tryz.func189 rfl (by kernel_rfl) ?_;rw[Tryz.ntmps189];refine aE fun _ K=>?_;simp only[kd,af];apply K
  refine aG (aE fun _ K=>?_);simp(disch:=omega) only[kd];apply K;refine bo rfl ?_;refine aE fun _ K=>?_;simp only[kd];apply K
  (refine aL ⟨.inr rfl,aQ rfl ?_ rfl⟩;simp(disch:=omega) only[kd,Tryz.results189])
 obtain⟨b1,b2,b3⟩:=kK (show 0<a by omega) h1;have hsp:=cz h0;have hs0:0<isqF a:=by
  obtain⟨s0,s1,s2⟩:=hsp;by_cases e:isqF a=0
  ·rw[e]at s2;omega
  omega
 have hL:=sM a h0 h1;generalize Lib.bitLen a.toNat=L at*
 have e1:IntKind.u64.wrap a=a:=by rw[IntKind.wrap_u64];omega
 have e2:Int.tdiv ((L:Int)+1) 2=(((L+1)/2:Nat):Int):=by rw[Int.tdiv_eq_ediv_of_nonneg (by omega)];omega
 generalize hm:(L+1)/2=m at*
 have hm32:m<=32:=by omega
 have e3:IntKind.i64.wrap (2^min m IntKind.i64.bits)=((2^m:Nat):Int):=by
  rw[show min m IntKind.i64.bits=m from Nat.min_eq_left (show m<=64 by omega),show(2:Int)^m=((2^m:Nat):Int)from(Int.natCast_pow 2 m).symm];have:0<2^m:=Nat.pow_pos (by omega);rw[aM (by omega) (by omega)]
 have hp0:0<2^m:=Nat.pow_pos (by omega);generalize 2^m=p at*
 refine aK Tryz.func189 rfl (by kernel_rfl) ?_;rw[Tryz.ntmps189];refine aE fun _ K=>?_;simp only[kd,af];apply K
 refine aG (aE fun _ K=>?_);simp(disch:=omega) only[kd];apply K;refine aU rfl (aR ?_);show bu _ _ _ _;refine aI [⟨2,_,_,_,hL⟩] [] fun _ K=>?_;simp(disch:=omega) only[kd,aa,e1,aM,e2,Int.one_mul,e3];apply K
 refine bH (G:=Sm a) (fun g=>⟨(.raw (.int .i64 a)::jk::jk::rN g.r::j16 (j4 ([]))),Hm []⟩) (fun g=>g.r) ⟨p,hp0,b2,b3⟩ ?_ ?_
 ·refine aF trivial ?_;simp[wk]
 rintro⟨r,hr0,hr1,hr2⟩;simp only;have hge:=pZ (r:=(r:Int)) hsp (by omega);have hq0:0<=a/(r:Int):=Int.ediv_nonneg h0 (by omega);have hq1:a/(r:Int)<=a:=Int.ediv_le_self _ h0;have eq:Int.tdiv a (r:Int)=a/(r:Int):=Int.tdiv_eq_ediv_of_nonneg h0;have e4:Int.tdiv ((r:Int)+a/(r:Int)) 2=((r:Int)+a/(r:Int))/2:=Int.tdiv_eq_ediv_of_nonneg (by omega);have hend:=nA (r:=(r:Int)) hsp (by omega) hr1;have hrne:((r:Int)=0)=False:=eq_false (by omega);generalize a/(r:Int)=q at*
 obtain⟨t,ht⟩: ∃t:Nat,((r:Int)+q)/2=(t:Int):=Int.eq_ofNat_of_zero_le (by omega);rw[ht]at hge hend e4;refine aP ?_;refine aE fun _ K=>?_;simp(disch:=omega) only[kd,aa,eq,aM,e4];apply K
 by_cases hc:r<=t
 ·have hre:=hend (by omega);refine aG (aE fun _ K=>?_);simp(disch:=omega) only[kd,aa];apply K;refine bo rfl ?_;refine aE fun _ K=>?_;simp only[kd];apply K
  rw[hre]
  (refine aL ⟨.inr rfl,aQ rfl ?_ rfl⟩;simp(disch:=omega) only[kd,Tryz.results189])
 refine aG (aE fun _ K=>?_);simp(disch:=omega) only[kd,aa];apply K;refine aU rfl (aR ?_);show bu _ _ _ _;refine aO fun _ K=>?_;simp only[kd];apply K
 refine⟨⟨t,by omega,by omega,by omega⟩,by simp only;omega,aF trivial ?_⟩;simp[wk]
theorem Ag (a b:Int) (hb:0<b) (hb2:b<=4611686018427387904) (h1: -4611686018427387904<=a) (h2:a<=4611686018427387904):CallC Tryz.prog 223 [.raw (.int .i64 a),.raw (.int .i64 b)] ⟨[],.raw (.int .i64 (a/b))⟩:=by
 have hf:=IF (a:=a) hb;have hn:(Int.tdiv a b).natAbs<=a.natAbs:=by
  rw[Int.natAbs_tdiv];exact Nat.div_le_self _ _
 have hbne:(b=0)=False:=eq_false (by omega);rw[hf];generalize hq:Int.tdiv a b=q at*
 generalize hw:Int.tmod a b=m at*
 refine aK Tryz.func223 rfl (by kernel_rfl) ?_;rw[Tryz.ntmps223];refine aE fun _ K=>?_;simp only[kd,aa,af];apply K
 refine aE fun _ K=>?_;simp(disch:=omega) only[kd,aa,hq,aM];apply K
 by_cases hm:m<0
 ·rw[if_pos hm];refine aG (aE fun _ K=>?_);simp(disch:=omega) only[kd,aa,hw];apply K;refine bo rfl ?_;refine aO fun _ K=>?_;simp(disch:=omega) only[kd,aa,aM];apply K
  show bu _ _ _ _;refine aE fun _ K=>?_;simp only[kd];apply K
  (refine aL ⟨.inr rfl,aQ rfl ?_ rfl⟩;simp(disch:=omega) only[kd,Tryz.results223])
 rw[if_neg hm];refine aG (aE fun _ K=>?_);simp(disch:=omega) only[kd,aa,hw];apply K;refine aU rfl (aR ?_);show bu _ _ _ _;refine aE fun _ K=>?_;simp only[kd];apply K
 (refine aL ⟨.inr rfl,aQ rfl ?_ rfl⟩;simp(disch:=omega) only[kd,Tryz.results223])
theorem Mb (a:Int) (h0:0<=a) (h1:a<=4611686018427387904):CallC Tryz.prog 140 [.raw (.int .i64 a)] ⟨[],.raw (.int .i64 (isqF a))⟩:=by
 by_cases hz:a=0
 ·subst hz;rw[sP];refine aK Tryz.func140 rfl (by kernel_rfl) ?_;rw[Tryz.ntmps140];refine aE fun _ K=>?_;simp only[kd,af];apply K
  refine aG (aE fun _ K=>?_);simp(disch:=omega) only[kd];apply K;refine bo rfl ?_;refine aE fun _ K=>?_;simp only[kd];apply K
  (refine aL ⟨.inr rfl,aQ rfl ?_ rfl⟩;simp(disch:=omega) only[kd,Tryz.results140])
 obtain⟨b1,b2,b3⟩:=kK (show 0<a by omega) h1;have hsp:=cz h0;have hs0:0<isqF a:=by
  obtain⟨s0,s1,s2⟩:=hsp;by_cases e:isqF a=0
  ·rw[e]at s2;omega
  omega
 have hL:=sM a h0 h1;generalize Lib.bitLen a.toNat=L at*
 have e1:IntKind.u64.wrap a=a:=by rw[IntKind.wrap_u64];omega
 have e2:Int.tdiv ((L:Int)+1) 2=(((L+1)/2:Nat):Int):=by rw[Int.tdiv_eq_ediv_of_nonneg (by omega)];omega
 generalize hm:(L+1)/2=m at*
 have hm32:m<=32:=by omega
 have e3:IntKind.i64.wrap (2^min m IntKind.i64.bits)=((2^m:Nat):Int):=by
  rw[show min m IntKind.i64.bits=m from Nat.min_eq_left (show m<=64 by omega),show(2:Int)^m=((2^m:Nat):Int)from(Int.natCast_pow 2 m).symm];have:0<2^m:=Nat.pow_pos (by omega);rw[aM (by omega) (by omega)]
 have hp0:0<2^m:=Nat.pow_pos (by omega);generalize 2^m=p at*
 refine aK Tryz.func140 rfl (by kernel_rfl) ?_;rw[Tryz.ntmps140];refine aE fun _ K=>?_;simp only[kd,af];apply K
 refine aG (aE fun _ K=>?_);simp(disch:=omega) only[kd];apply K;refine aU rfl (aR ?_);show bu _ _ _ _;refine aI [⟨2,_,_,_,hL⟩] [] fun _ K=>?_;simp(disch:=omega) only[kd,aa,e1,aM,e2,Int.one_mul,e3];apply K
 refine bH (G:=Sm a) (fun g=>⟨(.raw (.int .i64 a)::jk::jk::rN g.r::j16 (j4 ([]))),Hm []⟩) (fun g=>g.r) ⟨p,hp0,b2,b3⟩ ?_ ?_
 ·refine aF trivial ?_;simp[wk]
 rintro⟨r,hr0,hr1,hr2⟩;simp only;have hge:=pZ (r:=(r:Int)) hsp (by omega);have hq0:0<=a/(r:Int):=Int.ediv_nonneg h0 (by omega);have hq1:a/(r:Int)<=a:=Int.ediv_le_self _ h0;have eq:Int.tdiv a (r:Int)=a/(r:Int):=Int.tdiv_eq_ediv_of_nonneg h0;have e4:Int.tdiv ((r:Int)+a/(r:Int)) 2=((r:Int)+a/(r:Int))/2:=Int.tdiv_eq_ediv_of_nonneg (by omega);have hend:=nA (r:=(r:Int)) hsp (by omega) hr1;have hrne:((r:Int)=0)=False:=eq_false (by omega);generalize a/(r:Int)=q at*
 obtain⟨t,ht⟩: ∃t:Nat,((r:Int)+q)/2=(t:Int):=Int.eq_ofNat_of_zero_le (by omega);rw[ht]at hge hend e4;refine aP ?_;refine aE fun _ K=>?_;simp(disch:=omega) only[kd,aa,eq,aM,e4];apply K
 by_cases hc:r<=t
 ·have hre:=hend (by omega);refine aG (aE fun _ K=>?_);simp(disch:=omega) only[kd,aa];apply K;refine bo rfl ?_;refine aE fun _ K=>?_;simp only[kd];apply K
  rw[hre]
  (refine aL ⟨.inr rfl,aQ rfl ?_ rfl⟩;simp(disch:=omega) only[kd,Tryz.results140])
 refine aG (aE fun _ K=>?_);simp(disch:=omega) only[kd,aa];apply K;refine aU rfl (aR ?_);show bu _ _ _ _;refine aO fun _ K=>?_;simp only[kd];apply K
 refine⟨⟨t,by omega,by omega,by omega⟩,by simp only;omega,aF trivial ?_⟩;simp[wk]
theorem yW (a b:Int) (hb:0<b) (hb2:b<=4611686018427387904) (h1: -4611686018427387904<=a) (h2:a<=4611686018427387904):CallC Tryz.prog 141 [.raw (.int .i64 a),.raw (.int .i64 b)] ⟨[],.raw (.int .i64 (a/b))⟩:=by
 have hf:=IF (a:=a) hb;have hn:(Int.tdiv a b).natAbs<=a.natAbs:=by
  rw[Int.natAbs_tdiv];exact Nat.div_le_self _ _
 have hbne:(b=0)=False:=eq_false (by omega);rw[hf];generalize hq:Int.tdiv a b=q at*
 generalize hw:Int.tmod a b=m at*
 refine aK Tryz.func141 rfl (by kernel_rfl) ?_;rw[Tryz.ntmps141];refine aE fun _ K=>?_;simp only[kd,aa,af];apply K
 refine aE fun _ K=>?_;simp(disch:=omega) only[kd,aa,hq,aM];apply K
 by_cases hm:m<0
 ·rw[if_pos hm];refine aG (aE fun _ K=>?_);simp(disch:=omega) only[kd,aa,hw];apply K;refine bo rfl ?_;refine aO fun _ K=>?_;simp(disch:=omega) only[kd,aa,aM];apply K
  show bu _ _ _ _;refine aE fun _ K=>?_;simp only[kd];apply K
  (refine aL ⟨.inr rfl,aQ rfl ?_ rfl⟩;simp(disch:=omega) only[kd,Tryz.results141])
 rw[if_neg hm];refine aG (aE fun _ K=>?_);simp(disch:=omega) only[kd,aa,hw];apply K;refine aU rfl (aR ?_);show bu _ _ _ _;refine aE fun _ K=>?_;simp only[kd];apply K
 (refine aL ⟨.inr rfl,aQ rfl ?_ rfl⟩;simp(disch:=omega) only[kd,Tryz.results141])
theorem Ev (a:Int) (h0:0<=a) (h1:a<=4611686018427387904):CallC Tryz.prog 144 [.raw (.int .i64 a)] ⟨[],.raw (.int .i64 (isqF a))⟩:=by
 by_cases hz:a=0
 ·subst hz;rw[sP];refine aK Tryz.func144 rfl (by kernel_rfl) ?_;rw[Tryz.ntmps144];refine aE fun _ K=>?_;simp only[kd,af];apply K
  refine aG (aE fun _ K=>?_);simp(disch:=omega) only[kd];apply K;refine bo rfl ?_;refine aE fun _ K=>?_;simp only[kd];apply K
  (refine aL ⟨.inr rfl,aQ rfl ?_ rfl⟩;simp(disch:=omega) only[kd,Tryz.results144])
 obtain⟨b1,b2,b3⟩:=kK (show 0<a by omega) h1;have hsp:=cz h0;have hs0:0<isqF a:=by
  obtain⟨s0,s1,s2⟩:=hsp;by_cases e:isqF a=0
  ·rw[e]at s2;omega
  omega
 have hL:=sM a h0 h1;generalize Lib.bitLen a.toNat=L at*
 have e1:IntKind.u64.wrap a=a:=by rw[IntKind.wrap_u64];omega
 have e2:Int.tdiv ((L:Int)+1) 2=(((L+1)/2:Nat):Int):=by rw[Int.tdiv_eq_ediv_of_nonneg (by omega)];omega
 generalize hm:(L+1)/2=m at*
 have hm32:m<=32:=by omega
 have e3:IntKind.i64.wrap (2^min m IntKind.i64.bits)=((2^m:Nat):Int):=by
  rw[show min m IntKind.i64.bits=m from Nat.min_eq_left (show m<=64 by omega),show(2:Int)^m=((2^m:Nat):Int)from(Int.natCast_pow 2 m).symm];have:0<2^m:=Nat.pow_pos (by omega);rw[aM (by omega) (by omega)]
 have hp0:0<2^m:=Nat.pow_pos (by omega);generalize 2^m=p at*
 refine aK Tryz.func144 rfl (by kernel_rfl) ?_;rw[Tryz.ntmps144];refine aE fun _ K=>?_;simp only[kd,af];apply K
 refine aG (aE fun _ K=>?_);simp(disch:=omega) only[kd];apply K;refine aU rfl (aR ?_);show bu _ _ _ _;refine aI [⟨2,_,_,_,hL⟩] [] fun _ K=>?_;simp(disch:=omega) only[kd,aa,e1,aM,e2,Int.one_mul,e3];apply K
 refine bH (G:=Sm a) (fun g=>⟨(.raw (.int .i64 a)::jk::jk::rN g.r::j16 (j4 ([]))),Hm []⟩) (fun g=>g.r) ⟨p,hp0,b2,b3⟩ ?_ ?_
 ·refine aF trivial ?_;simp[wk]
 rintro⟨r,hr0,hr1,hr2⟩;simp only;have hge:=pZ (r:=(r:Int)) hsp (by omega);have hq0:0<=a/(r:Int):=Int.ediv_nonneg h0 (by omega);have hq1:a/(r:Int)<=a:=Int.ediv_le_self _ h0;have eq:Int.tdiv a (r:Int)=a/(r:Int):=Int.tdiv_eq_ediv_of_nonneg h0;have e4:Int.tdiv ((r:Int)+a/(r:Int)) 2=((r:Int)+a/(r:Int))/2:=Int.tdiv_eq_ediv_of_nonneg (by omega);have hend:=nA (r:=(r:Int)) hsp (by omega) hr1;have hrne:((r:Int)=0)=False:=eq_false (by omega);generalize a/(r:Int)=q at*
 obtain⟨t,ht⟩: ∃t:Nat,((r:Int)+q)/2=(t:Int):=Int.eq_ofNat_of_zero_le (by omega);rw[ht]at hge hend e4;refine aP ?_;refine aE fun _ K=>?_;simp(disch:=omega) only[kd,aa,eq,aM,e4];apply K
 by_cases hc:r<=t
 ·have hre:=hend (by omega);refine aG (aE fun _ K=>?_);simp(disch:=omega) only[kd,aa];apply K;refine bo rfl ?_;refine aE fun _ K=>?_;simp only[kd];apply K
  rw[hre]
  (refine aL ⟨.inr rfl,aQ rfl ?_ rfl⟩;simp(disch:=omega) only[kd,Tryz.results144])
 refine aG (aE fun _ K=>?_);simp(disch:=omega) only[kd,aa];apply K;refine aU rfl (aR ?_);show bu _ _ _ _;refine aO fun _ K=>?_;simp only[kd];apply K
 refine⟨⟨t,by omega,by omega,by omega⟩,by simp only;omega,aF trivial ?_⟩;simp[wk]
theorem Az (a b:Int) (hb:0<b) (hb2:b<=4611686018427387904) (h1: -4611686018427387904<=a) (h2:a<=4611686018427387904):CallC Tryz.prog 148 [.raw (.int .i64 a),.raw (.int .i64 b)] ⟨[],.raw (.int .i64 (a/b))⟩:=by
 have hf:=IF (a:=a) hb;have hn:(Int.tdiv a b).natAbs<=a.natAbs:=by
  rw[Int.natAbs_tdiv];exact Nat.div_le_self _ _
 have hbne:(b=0)=False:=eq_false (by omega);rw[hf];generalize hq:Int.tdiv a b=q at*
 generalize hw:Int.tmod a b=m at*
 refine aK Tryz.func148 rfl (by kernel_rfl) ?_;rw[Tryz.ntmps148];refine aE fun _ K=>?_;simp only[kd,aa,af];apply K
 refine aE fun _ K=>?_;simp(disch:=omega) only[kd,aa,hq,aM];apply K
 by_cases hm:m<0
 ·rw[if_pos hm];refine aG (aE fun _ K=>?_);simp(disch:=omega) only[kd,aa,hw];apply K;refine bo rfl ?_;refine aO fun _ K=>?_;simp(disch:=omega) only[kd,aa,aM];apply K
  show bu _ _ _ _;refine aE fun _ K=>?_;simp only[kd];apply K
  (refine aL ⟨.inr rfl,aQ rfl ?_ rfl⟩;simp(disch:=omega) only[kd,Tryz.results148])
 rw[if_neg hm];refine aG (aE fun _ K=>?_);simp(disch:=omega) only[kd,aa,hw];apply K;refine aU rfl (aR ?_);show bu _ _ _ _;refine aE fun _ K=>?_;simp only[kd];apply K
 (refine aL ⟨.inr rfl,aQ rfl ?_ rfl⟩;simp(disch:=omega) only[kd,Tryz.results148])
def fl (c:Nat) (g:FF):Nat->Int:=fun k=>g (k/c) (k%c)
theorem RA {c:Nat} (g:FF) {i j:Nat} (hj:j<c):fl c g (i*c+j)=g i j:=by
 unfold fl;have h:=xe (i:=i) (j:=j) (sz:=c) hj;rw[h.1,h.2]
theorem oy {n c:Nat} {g g':FF} (h: ∀a b,a<n->b<c->g a b=g' a b):be (n*c) (fl c g)=be (n*c) (fl c g'):=dv fun k hk=>by
 have hc:0<c:=by
  rcases Nat.eq_zero_or_pos c with h|h
  ·subst h;simp at hk
  exact h
 exact h _ _ (Nat.div_lt_of_lt_mul (by rw[Nat.mul_comm];exact hk)) (Nat.mod_lt _ hc)
theorem IG {n c i j:Nat} (g:FF) {v:Int} (hi:i<n) (hj:j<c):(be (n*c) (fl c g)).set (i*c+j) v=be (n*c) (fl c (upd g i j v)):=by
 rw[ke];refine dv fun k hk=>?_
 have hc:0<c:=by omega
 unfold fl upd;by_cases h:k=i*c+j
 ·subst h;have h:=xe (i:=i) (j:=j) (sz:=c) hj;rw[h.1,h.2];simp
 rw[if_neg h];by_cases h1:k/c=i
 ·have h2:k%c≠j:=fun hh=>h (by
   have:=Nat.div_add_mod k c;rw[h1,hh,Nat.mul_comm]at this;exact this.symm)
  rw[if_pos h1];show _=if k%c=j then v else g i (k%c)
  rw[if_neg h2,h1]
 rw[if_neg h1]
theorem DZ (l:List Int) (k:Nat) (v:Int):(lc fZ l).set k [.p (.raw (.bool (decide (v<0)))),.p (.sl (ls fU (aY v.natAbs)))]=lc fZ (l.set k v):=by
 rw[<- pT];rfl
def CG (d n c i:Nat):List (List AV):=(List.range n).map fun k=>if k<i then[.sl d 1 (k*c) c]else[.p (.sl [])]
def x9 (d n c i:Nat) (g:FF):List OObj:=[⟨85,1,CG d n c i⟩,⟨65,2,lc fZ (be (n*c) (fl c g))⟩]
theorem pz (d n c i:Nat):(CG d n c i).length=n:=by simp[CG]
theorem jB {d n c i k:Nat} (h:k<n):(CG d n c i)[k]?=some (if k<i then[.sl d 1 (k*c) c]else[.p (.sl [])]):=by
 unfold CG;rw[az,List.getElem?_range h];rfl
theorem Ew {d n c i:Nat}:(CG d n c i).set i [.sl d 1 (i*c) c]=CG d n c (i+1):=by
 apply List.ext_getElem?;intro k;by_cases hk:k<n
 ·by_cases h:k=i
  ·subst h;rw[List.getElem?_set_self (by rw[pz];exact hk),jB hk,if_pos (Nat.lt_succ_self k)]
  rw[List.getElem?_set_ne (Ne.symm h),jB hk,jB hk];by_cases h2:k<i
  ·rw[if_pos h2,if_pos (by omega)]
  rw[if_neg h2,if_neg (by omega)]
 rw[au (by rw[List.length_set,pz];omega),au (by rw[pz];omega)]
theorem AB (d n c:Nat):([⟨85,1,af n [.raw (.slice none 0 0)]⟩]:List OObj).map zO=[⟨85,1,CG d n c 0⟩]:=by
 simp[zO,CG,Ld,Ll,List.map_const']
theorem Ey (n c:Nat) (g:FF):([⟨65,2,af (n*c) [.raw (.bool false),.raw (.slice none 0 0)]⟩]:List OObj).map zO=[⟨65,2,lc fZ (be (n*c) (fl c (part g 0 0)))⟩]:=by
 have e2:be (n*c) (fl c (part g 0 0))=af (n*c) 0:=by
  apply List.ext_getElem?;intro b;by_cases hb:b<n*c
  ·rw[aZ _ hb,List.getElem?_replicate,if_pos hb];simp[fl,part]
  rw[au (by rw[aW];omega),au (by simp;omega)]
 simp[e2,zO,lc,fZ,Ld,Ll,da,ls]
theorem AA (ty d n c:Nat):cU ⟨ty,1,CG d n c 0⟩:=fun e he x hx=>by
 simp only[CG,List.mem_map]at he;obtain⟨k,_,rfl⟩:=he;simp at hx;subst hx;rfl
theorem Ex {H:OH} {d n c i:Nat} {g:FF} (h:H d=x9 d n c i g):rc H d:=fun r o ho e he x hx=>by
 rw[h]at ho
 match r,ho with
 |0,ho=>
  simp[x9]at ho;subst ho;simp only[CG,List.mem_map]at he;obtain⟨k,_,rfl⟩:=he;split at hx
  ·simp at hx;subst hx;exact .inr ⟨1,_,_,⟨65,2,lc fZ (be (n*c) (fl c g))⟩,rfl,by rw[h];rfl,bz _ _ _⟩
  simp at hx;subst hx;exact .inl rfl
 |1,ho=>
  simp[x9]at ho;subst ho;exact .inl (bz _ _ _ e he x hx)
 |r+2,ho=>simp[x9]at ho
theorem Gd {n c i:Nat} (g:FF) (hi:i<n):((be (n*c) (fl c g)).take (i*c+c)).drop (i*c)=be c (g i):=by
 have hk:i*c+c<=n*c:=by
  have:=Nat.mul_le_mul_right c hi;rw[Nat.succ_mul]at this;exact this
 apply List.ext_getElem?;intro j;rw[List.getElem?_drop,List.getElem?_take];by_cases hj:j<c
 ·rw[if_pos (by omega),aZ _ (by omega),RA g hj,aZ _ hj]
 rw[if_neg (by omega),au (by rw[aW];omega)]
theorem Ky {H:OH} {n c:Nat} {g:FF} (_hc:1<=c) (h:H 5016=x9 5016 n c n g):eZ H 5016 (.one (.sl 5016 0 0 n))= .one (.p (.sl (ls (fR fZ) (mat n c g)))):=by
 have h0:(H 5016)[0]?=some ⟨85,1,CG 5016 n c n⟩:=by rw[h];rfl
 have h1:(H 5016)[1]?=some ⟨65,2,lc fZ (be (n*c) (fl c g))⟩:=by rw[h];rfl
 simp only[eZ,dI,if_true,h0]
 congr 3
 rw[Nat.zero_add,List.drop_zero,List.take_of_length_le (by rw[pz];exact ae _)];apply List.ext_getElem?;intro k;rw[az,fY];by_cases hk:k<n
 ·rw[jB hk,if_pos hk,b6 c g hk];simp only[Option.map_some,List.map_cons,List.map_nil,kV,h1,gQ,xm,Gd g hk,mr];rfl
 rw[au (by rw[pz];omega),au (by rw[bV];omega)];rfl
end Go.Proofs.YtalmoejhjceflaaGreat
