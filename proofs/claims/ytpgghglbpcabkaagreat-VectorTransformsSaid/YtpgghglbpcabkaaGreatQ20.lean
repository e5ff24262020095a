/-
  Part 21 of a proof (walks and plain facts).
-/
import Derived.Test.YtpgghglbpcabkaaGreatQ19
import Derived.Lib.BitFns
import Derived.Shelf.Small.Bits
import Derived.Ground.NamesProg
import Derived.Test.YtpgghglbpcabkaaGreatProg
set_option linter.all false
set_option maxRecDepth 100000
set_option maxHeartbeats 64000000
namespace Go.Proofs.YtpgghglbpcabkaaGreat
open Go.RowKit
theorem lA {pre u post:List Nat} {off i x:Nat} (hp:pre.length=off) (h:u[i]?=some x):(pre++(u++post))[off+i]?=some x:=by
 have hi:=(List.getElem?_eq_some_iff.1 h).1
 rw[List.getElem?_append_right (by omega),hp,Nat.add_sub_cancel_left,List.getElem?_append_left hi,h]
theorem rf {pre u post:List Nat} {off i:Nat} (v:Nat) (hp:pre.length=off) (hi:i<u.length):(pre++(u++post)).set (off+i) v=pre++(u.set i v++post):=by
 rw[List.set_append_right _ _ (by omega),hp,Nat.add_sub_cancel_left,List.set_append_left _ _ hi]
theorem rk {us u:List Nat} {i:Nat} (v:Nat) (hus:us.length=i) (hi:i<u.length):(us++u.drop i).set i v=(us++[v])++u.drop (i+1):=by
 have hd:u.drop i=u[i]::u.drop (i+1):=List.drop_eq_getElem_cons hi
 rw[hd,List.set_append_right _ _ (by omega),hus,Nat.sub_self,List.set_cons_zero,List.append_assoc];rfl
theorem wv {us u:List Nat} {i x:Nat} (hus:us.length=i) (hx:u[i]?=some x):(us++u.drop i)[i]?=some x:=by
 rw[List.getElem?_append_right (by omega),hus,Nat.sub_self,List.getElem?_drop,Nat.add_zero,hx]
theorem wy {us u:List Nat} {i:Nat} (hus:us.length=i) (hi:i<=u.length):(us++u.drop i).length=u.length:=by
 rw[List.length_append,hus,List.length_drop];omega
theorem DF {P:Program} {k:Nat} {c z:Code} {Q:Exit->AS->Prop} {s:AS} (S:Nat->AS) (p:Nat->Prop) (h1:jD P k c (lJ (fun s'=> ∃g,p g/\dG s' (S g)) Q) s) (h2: ∀g,p g->jD P k z Q (S g)):jD P k c (lJ (jD P k z Q) Q) s:=h1.mono fun e s' h=>by
 cases e with
 |normal=>obtain⟨g,hp,hw⟩:=h;exact(h2 g hp).weak hw
 |_=>exact h
theorem KU (y lo b:Nat) (hy:y<4294967296) (hlo:lo<4294967296) (hb:b<=1):IntKind.u32.wrap (IntKind.u64.wrap (IntKind.u64.wrap ((y:Int)-(lo:Int))-(b:Int)))=(((y+8589934592-(lo+b))%4294967296:Nat):Int)/\
  Int.fdiv (IntKind.u64.wrap (IntKind.u64.wrap ((y:Int)-(lo:Int))-(b:Int))) (2^(min 63 IntKind.u64.bits))=(((if y<lo+b then 1 else 0):Nat):Int):=by
 constructor
 ·rw[IntKind.wrap_u32,IntKind.wrap_u64,IntKind.wrap_u64];omega
 ·rw[IntKind.wrap_u64,IntKind.wrap_u64]
  show Int.fdiv _ 9223372036854775808=_
  rw[Int.fdiv_eq_ediv_of_nonneg _ (by omega)]
  split<;>omega
theorem tO (pre u post v:List Nat) (off n v1 v2 u2 u1 u0:Nat) (hp:pre.length=off) (H:tI u v n v1 v2 u2 u1 u0) (bR:(pre++(u++post)).length<=536870912):
  qh Tryz.prog 149 [.undef,ca v] 0 off (n+3) ⟨118,1,lc fU (pre++(u++post))⟩ ⟨118,1,lc fU (pre++(cL (n+3) (natV u%natV v)++post))⟩ (.raw (.int .u32 ((natV u/natV v:Nat):Int))):=by
 have nu:=H.nu
 have nv:=H.nv
 have hv1:=H.hv1
 have hv2:=H.hv2
 have bv1:=H.bv1
 have bv2:=H.bv2
 have bu2:=H.bu2
 have bu1:=H.bu1
 have bu0:=H.bu0
 have top:=H.top
 have hqlt:=H.q_lt
 have hRl:(pre++(u++post)).length=off+(n+3)+post.length:=by simp[hp,nu];omega
 have gu2:=lA (post:=post) hp H.hu2
 have gu1:=lA (post:=post) hp H.hu1
 have gu0:=lA (post:=post) hp H.hu0
 refine rK Tryz.func149 rfl (by kernel_rfl) (by simp) (by omega) (by simp[lc]at hRl⊢;omega) (fj _ _) rfl (by simp[lc,cK,nu]) (fj _ _) rfl ?_
 rw[Tryz.ntmps149]
 have e2:((n+2:Nat):Int)-1=((n+1:Nat):Int):=by omega
 have e3:((n+2:Nat):Int)-2=((n:Nat):Int):=by omega
 (refine b6 [] [] (by kernel_rfl) (by simp) fun K hK=>?_;simp(disch:=omega) only[kc,ab,ca,Nat.reduceAdd,List.replicate,ac,Value.oneCell'];apply hK)
 (refine b6 [] [] (by kernel_rfl) (by simp) fun K hK=>?_;simp(disch:=omega) only[kc,ab,Nat.reduceAdd,aw,au,an,aR,nv];apply hK)
 have a1:=tD (a:=u2) (s:=32) (by omega) (by omega)
 have a2:=v8 (u2*2^32) u1 (by omega) (by omega)
 rw[pO u2 u1 32 (by omega),show u2*2^32+u1=u2*4294967296+u1 from rfl]at a2
 obtain⟨high,hhigh⟩: ∃high,high=u2*4294967296+u1:=⟨_,rfl⟩
 rw[<- hhigh]at a2
 obtain⟨k0,hk1,hk2⟩: ∃k:J0 u v v1 high,k.g=high/v1/\k.r=high%v1:=by rw[hhigh];exact H.first
 have hk3:=k0.le
 have a3:Int.tdiv (high:Int) (v1:Int)=(k0.g:Int):=by rw[hk1];exact(Int.ofNat_tdiv _ _).symm
 have a4:Int.tmod (high:Int) (v1:Int)=(k0.r:Int):=by rw[hk2];exact(Int.ofNat_tmod _ _).symm
 generalize hR:pre++(u++post)=R at*
 (refine i9 bY [] [] (by kernel_rfl) (by kernel_rfl) (by simp) fun K hK=>?_;simp(disch:=omega) only[kc,ab,Nat.reduceAdd,ag,au,ao,an,famH,bs,bH,cb,fU,gu2,aA,bN,bF,ak,Tryz.underlying118,cn,dS,ac,Value.oneCell',ah,Int.reduceLE,Int.reduceToNat,a1,e2,bC,gu1,a2];apply hK)
 (refine i9 bY [] [] (by kernel_rfl) (by kernel_rfl) (by simp) fun K hK=>?_;simp(disch:=omega) only[kc,ab,Nat.reduceAdd,ak,ac,Value.oneCell',ah,e2,bC,ag,au,ao,an,bG,hv1,fU,bs,aA,bN,bF,Tryz.underlying118,cn,dS,a3,bH,a4];apply hK)
 refine dD (DF (fun g=>⟨[.one (.sl 0 0 off (n+3)),ca v,jk,jk,jk,.raw (.int .i64 ((n+2:Nat):Int)),jk,.raw (.int .u64 (g:Int)),jk,jk,jk,jk,jk,jk,jk,jk,jk,jk,jk,jk,jk,jk,jk,jk,jk,jk,jk,jk,jk,jk,jk,jk,jk,jk,jk,jk,jk,jk,jk,jk,jk,jk,jk,jk,jk,jk,jk,jk,jk,jk,jk,jk,jk,jk,jk,jk,jk,jk,jk,jk,jk,jk,jk,jk,jk,jk,jk,jk,jk,jk,jk,jk,jk,jk,jk,jk,jk,jk,jk,jk,jk,jk,jk,jk,jk,jk,jk,jk,jk,jk,jk,jk,jk,jk,jk,jk,jk,jk,jk,jk,jk,jk,jk,jk,jk,jk,jk,jk,jk,jk,jk,jk,jk,jk,jk,jk,jk,jk,jk,jk,jk,jk,jk,jk,jk,jk,jk,jk,jk,jk,jk,jk,jk,jk,jk,jk,jk,jk,jk,jk,jk,jk,jk,jk,jk,jk,jk,jk,jk,jk,jk,jk,jk,jk,jk,jk,jk,jk,jk,jk,jk,jk,jk,jk,jk,jk,jk,jk,jk,jk,jk],Hm [(0,[⟨118,1,lc fU R⟩])]⟩) (fun g=>natV u/natV v<=g/\g<=natV u/natV v+1/\g<=4294967296) ?_ ?_)
 ·have H2:=H
  subst hhigh
  refine lQ (G:=J0 u v v1 (u2*4294967296+u1)) (fun k=>⟨[.one (.sl 0 0 off (n+3)),ca v,jk,jk,jk,.raw (.int .i64 ((n+2:Nat):Int)),jk,.raw (.int .u64 (k.g:Int)),.raw (.int .u64 (k.r:Int)),jk,jk,jk,jk,jk,jk,jk,jk,jk,jk,jk,jk,jk,jk,jk,jk,jk,jk,jk,jk,jk,jk,jk,jk,jk,jk,jk,jk,jk,jk,jk,jk,jk,jk,jk,jk,jk,jk,jk,jk,jk,jk,jk,jk,jk,jk,jk,jk,jk,jk,jk,jk,jk,jk,jk,jk,jk,jk,jk,jk,jk,jk,jk,jk,jk,jk,jk,jk,jk,jk,jk,jk,jk,jk,jk,jk,jk,jk,jk,jk,jk,jk,jk,jk,jk,jk,jk,jk,jk,jk,jk,jk,jk,jk,jk,jk,jk,jk,jk,jk,jk,jk,jk,jk,jk,jk,jk,jk,jk,jk,jk,jk,jk,jk,jk,jk,jk,jk,jk,jk,jk,jk,jk,jk,jk,jk,jk,jk,jk,jk,jk,jk,jk,jk,jk,jk,jk,jk,jk,jk,jk,jk,jk,jk,jk,jk,jk,jk,jk,jk,jk,jk,jk,jk,jk,jk,jk,jk,jk,jk,jk,jk],Hm [(0,[⟨118,1,lc fU R⟩])]⟩) (fun k=>k.g) k0 ?_ ?_
  ·refine aj ⟨rfl,trivial⟩ ?_
   simp[b9,bo,bj]
  ·intro k
   have kg:=k.le
   have kr:=k.hr
   have keq:=k.eq
   have kge:=k.ge
   have e5:=Dc k.g
   -- the guess goes down
   have down:(4294967296<=k.g\/k.r*4294967296+u0<k.g*v2)->natV u/natV v<k.g:=H2.down k
   have next:natV u/natV v<k.g->k.r+v1<4294967296-> ∃k':J0 u v v1 (u2*4294967296+u1),k'.g=k.g-1/\k'.r=k.r+v1:=fun h1 h2=>by
    refine⟨⟨k.g-1,k.r+v1,?_,by omega,by omega,h2⟩,rfl,rfl⟩
    refine Eq.trans ?_ keq
    have:k.g*v1=(k.g-1)*v1+v1:=by
     obtain⟨m,hm⟩: ∃m,k.g=m+1:=⟨k.g-1,(Nat.succ_pred_eq_of_pos (Nat.lt_of_le_of_lt (Nat.zero_le _) h1)).symm⟩
     rw[hm,Nat.add_sub_cancel,Nat.add_mul,Nat.one_mul]
    omega
   have stop:natV u/natV v<k.g->4294967296<=k.r+v1->natV u/natV v<=k.g-1/\k.g-1<=natV u/natV v+1/\k.g-1<=4294967296:=fun h1 h2=>by
    refine⟨by omega,?_,by omega⟩
    refine H2.near (r:=k.r+v1) ?_ (by omega) ?_
    ·refine Eq.trans ?_ keq
     have:k.g*v1=(k.g-1)*v1+v1:=by
      obtain⟨m,hm⟩: ∃m,k.g=m+1:=⟨k.g-1,(Nat.succ_pred_eq_of_pos (Nat.lt_of_le_of_lt (Nat.zero_le _) h1)).symm⟩
      rw[hm,Nat.add_sub_cancel,Nat.add_mul,Nat.one_mul]
     omega
    ·have h3:(k.g-1)*v2<=4294967296*4294967295:=Nat.mul_le_mul (by omega) (by omega)
     have h4:4294967296*4294967296<=(k.r+v1)*4294967296:=Nat.mul_le_mul_right _ h2
     omega
   have e7:(k.g:Int)-1=((k.g-1:Nat):Int)\/k.g=0:=by omega
   have e8:(k.r:Int)+(v1:Int)=((k.r+v1:Nat):Int):=by omega
   have e9:=Dc (k.r+v1)
   by_cases hbig:4294967296<=k.g
   ·have hd:=down (.inl hbig)
    replace e7:=e7.resolve_right (by omega)
    (refine dD (i9 bY [] [] (by kernel_rfl) (by kernel_rfl) (by simp) fun K hK=>?_);simp(disch:=omega) only[kc,ab,Nat.reduceAdd,ca,Hm,ak,ac,Value.oneCell',ah,Int.reduceLE,Int.reduceToNat,e5,bf,Bool.not_false,aB,reduceCtorEq,Option.map_none,ag,au,bF,Tryz.underlying118,cn,aQ];apply hK)
    refine dJ rfl (fun _=>f7 ?_) (fun h=>by simp at h<;>omega)
    refine gT ?_
    (refine b6 [] [] (by kernel_rfl) (by simp) fun K hK=>?_;simp(disch:=omega) only[kc,ab,Nat.reduceAdd,ak,ac,Value.oneCell',ah,e7,dS];apply hK)
    (refine b6 [] [] (by kernel_rfl) (by simp) fun K hK=>?_;simp(disch:=omega) only[kc,ab,Nat.reduceAdd,ak,ac,Value.oneCell',ah,e2,bC,ag,au,ao,an,bG,hv1,fU,bs,aA,bN,bF,Tryz.underlying118,cn,dS,e8];apply hK)
    by_cases hover:4294967296<=k.r+v1
    ·(refine b6 [] [] (by kernel_rfl) (by simp) fun K hK=>?_;simp(disch:=omega) only[kc,ab,Nat.reduceAdd,ak,ac,Value.oneCell',ah,Int.reduceLE,Int.reduceToNat,e9,bf,Bool.not_false];apply hK)
     refine dJ rfl (fun _=>iE ?_) (fun h=>by simp at h<;>omega)
     refine⟨k.g-1,stop hd hover,aj ⟨rfl,trivial⟩ ?_⟩
     simp[b9,bo,bj]
    ·obtain⟨k',q1,q2⟩:=next hd (by omega)
     (refine b6 [] [] (by kernel_rfl) (by simp) fun K hK=>?_;simp(disch:=omega) only[kc,ab,Nat.reduceAdd,ak,ac,Value.oneCell',ah,Int.reduceLE,Int.reduceToNat,e9,bA];apply hK)
     refine dJ rfl (fun h=>by simp at h<;>omega) (fun _=>f7 ?_)
     refine⟨k',by omega,aj ⟨rfl,trivial⟩ ?_⟩
     simp[b9,bo,bj,q1,q2]
   ·have hmul:k.g*v2<=4294967295*4294967295:=Nat.mul_le_mul (by omega) (by omega)
    have e10:(k.g:Int)*(v2:Int)=((k.g*v2:Nat):Int):=by simp
    have e11:=tD (a:=k.r) (s:=32) (by omega) (by omega)
    have e12:=v8 (k.r*2^32) u0 (by omega) (by omega)
    rw[pO k.r u0 32 (by omega),show k.r*2^32+u0=k.r*4294967296+u0 from rfl]at e12
    by_cases hc:k.r*4294967296+u0<k.g*v2
    ·have hd:=down (.inr hc)
     replace e7:=e7.resolve_right (fun e=>by rw[e]at hd;exact absurd hd (Nat.not_lt_zero _))
     generalize k.g*v2=gv at*
     (refine dD (i9 bY [] [] (by kernel_rfl) (by kernel_rfl) (by simp) fun K hK=>?_);simp(disch:=omega) only[kc,ab,Nat.reduceAdd,ca,Hm,ak,ac,Value.oneCell',ah,Int.reduceLE,Int.reduceToNat,e5,bA,aB,bH,e3,bC,ag,au,ao,an,bG,hv2,fU,bs,aA,bN,bF,Tryz.underlying118,cn,dS,e10,e11,cb,gu0,e12,aQ];apply hK)
     refine dJ rfl (fun _=>f7 ?_) (fun h=>by simp at h<;>omega)
     refine gT ?_
     (refine b6 [] [] (by kernel_rfl) (by simp) fun K hK=>?_;simp(disch:=omega) only[kc,ab,Nat.reduceAdd,ak,ac,Value.oneCell',ah,e7,dS];apply hK)
     (refine b6 [] [] (by kernel_rfl) (by simp) fun K hK=>?_;simp(disch:=omega) only[kc,ab,Nat.reduceAdd,ak,ac,Value.oneCell',ah,e2,bC,ag,au,ao,an,bG,hv1,fU,bs,aA,bN,bF,Tryz.underlying118,cn,dS,e8];apply hK)
     by_cases hover:4294967296<=k.r+v1
     ·(refine b6 [] [] (by kernel_rfl) (by simp) fun K hK=>?_;simp(disch:=omega) only[kc,ab,Nat.reduceAdd,ak,ac,Value.oneCell',ah,Int.reduceLE,Int.reduceToNat,e9,bf,Bool.not_false];apply hK)
      refine dJ rfl (fun _=>iE ?_) (fun h=>by simp at h<;>omega)
      refine⟨k.g-1,stop hd hover,aj ⟨rfl,trivial⟩ ?_⟩
      simp[b9,bo,bj]
     ·obtain⟨k',q1,q2⟩:=next hd (by omega)
      (refine b6 [] [] (by kernel_rfl) (by simp) fun K hK=>?_;simp(disch:=omega) only[kc,ab,Nat.reduceAdd,ak,ac,Value.oneCell',ah,Int.reduceLE,Int.reduceToNat,e9,bA];apply hK)
      refine dJ rfl (fun h=>by simp at h<;>omega) (fun _=>f7 ?_)
      refine⟨k',by omega,aj ⟨rfl,trivial⟩ ?_⟩
      simp[b9,bo,bj,q1,q2]
    ·have hnear:=H2.near keq (by omega) (Nat.le_of_not_lt hc)
     generalize k.g*v2=gv at*
     (refine dD (i9 bY [] [] (by kernel_rfl) (by kernel_rfl) (by simp) fun K hK=>?_);simp(disch:=omega) only[kc,ab,Nat.reduceAdd,ca,Hm,ak,ac,Value.oneCell',ah,Int.reduceLE,Int.reduceToNat,e5,bA,aB,bH,e3,bC,ag,au,ao,an,bG,hv2,fU,bs,aA,bN,bF,Tryz.underlying118,cn,dS,e10,e11,cb,gu0,e12,bf,aQ];apply hK)
     refine dJ rfl (fun h=>by simp at h<;>omega) (fun _=>iE ?_)
     refine⟨k.g,⟨kge,hnear,by omega⟩,aj ⟨rfl,trivial⟩ ?_⟩
     simp[b9,bo,bj]
 ·rintro g ⟨hg1,hg2,hg3⟩
  subst hR
  clear gu2 gu1 gu0 a1 a2 a3 a4 hk1 hk2 hk3 k0
  (refine b6 [] [] (by kernel_rfl) (by simp) fun K hK=>?_;simp(disch:=omega) only[kc,ab,ca,Hm,ac,Value.oneCell'];apply hK)
  (refine dD (b6 [] [] (by kernel_rfl) (by simp) fun K hK=>?_);simp(disch:=omega) only[kc,ab,ac,Value.oneCell'];apply hK)
  refine lQ (G:=F9 u v g) (fun m=>⟨[.one (.sl 0 0 off (n+3)),ca v,jk,jk,jk,.raw (.int .i64 ((n+2:Nat):Int)),jk,.raw (.int .u64 (g:Int)),jk,.raw (.int .u64 (m.c:Int)),.raw (.int .u64 (m.b:Int)),jk,jk,jk,jk,jk,jk,jk,jk,jk,jk,jk,jk,jk,jk,jk,jk,jk,jk,jk,jk,jk,jk,jk,jk,jk,jk,jk,jk,jk,jk,jk,jk,jk,jk,jk,jk,jk,jk,jk,jk,jk,jk,jk,jk,jk,jk,jk,jk,jk,jk,jk,jk,jk,jk,jk,jk,jk,jk,jk,jk,jk,jk,jk,jk,jk,jk,jk,jk,jk,jk,jk,.raw (.int .i64 ((n+2:Nat):Int)),.raw (.int .i64 (m.i:Int)),jk,jk,jk,jk,jk,jk,jk,jk,jk,jk,jk,jk,jk,jk,jk,jk,jk,jk,jk,jk,jk,jk,jk,jk,jk,jk,jk,jk,jk,jk,jk,jk,jk,jk,jk,jk,jk,jk,jk,jk,jk,jk,jk,jk,jk,jk,jk,jk,jk,jk,jk,jk,jk,jk,jk,jk,jk,jk,jk,jk,jk,jk,jk,jk,jk,jk,jk,jk,jk,jk,jk,jk,jk,jk,jk,jk,jk,jk,jk,jk,jk,jk,jk,jk,jk,jk,jk],Hm [(0,[⟨118,1,lc fU (pre++((m.us++u.drop m.i)++post))⟩])]⟩) (fun m=>n+2-m.i) (F9.start u v g) ?_ ?_
  ·refine aj ⟨?_,trivial⟩ ?_
   ·simp[F9.start]
   ·simp[b9,bo,bj,F9.start]
  ·intro m
   have hmi:=m.hi
   have hmc:=m.hc
   have hmb:=m.hb
   have hml:=m.len
   by_cases hlt:m.i<n+2
   ·obtain⟨x,hx⟩:=getElem?_of_lt (l:=v) (k:=m.i) (by omega)
    obtain⟨y,hy⟩:=getElem?_of_lt (l:=u) (k:=m.i) (by omega)
    have hx':=dp H.lv hx
    have hy':=dp H.lu hy
    obtain⟨c1,c2⟩:=xM hg3 hx' hmc
    have hgx:g*x<=4294967296*4294967295:=Nat.mul_le_mul hg3 (by omega)
    have e4:(g:Int)*(x:Int)=((g*x:Nat):Int):=by simp
    have e5:(m.c:Int)+((g*x:Nat):Int)=((m.c+g*x:Nat):Int):=by simp
    have hseg:=wv hml hy
    have hsl:=wy (u:=u) hml (by omega)
    have hget:=lA (post:=post) hp hseg
    have hlo:(m.c+g*x)%4294967296<4294967296:=Nat.mod_lt _ (by omega)
    obtain⟨b1,b2⟩:=KU y ((m.c+g*x)%4294967296) m.b hy' hlo hmb
    obtain⟨m',q1,q2,q3,q4⟩:=G9 m (l:=(y+8589934592-((m.c+g*x)%4294967296+m.b))%4294967296) (b':=if y<(m.c+g*x)%4294967296+m.b then 1 else 0) hg3 hx hy H.lv (Nat.mod_lt _ (by omega)) (by split<;>omega) (by split<;>omega)
    have hset:=rf (post:=post) ((y+8589934592-((m.c+g*x)%4294967296+m.b))%4294967296) hp (show m.i<(m.us++u.drop m.i).length by omega)
    rw[rk _ hml (by omega)]at hset
    have e6:=rp (m.c+g*x)
    have e7:=Dc (m.c+g*x)
    have hrl:(pre++((m.us++u.drop m.i)++post)).length=off+(n+3)+post.length:=by simp only[List.length_append]at hRl hsl⊢;omega
    generalize(m.c+g*x)%4294967296=lo at*
    generalize(m.c+g*x)/4294967296=hi' at*
    generalize g*x=gx at*
    generalize(if y<lo+m.b then 1 else 0:Nat)=nb at*
    generalize(y+8589934592-(lo+m.b))%4294967296=nl at*
    generalize hRR:pre++((m.us++u.drop m.i)++post)=RR at*
    (refine b6 [] [] (by kernel_rfl) (by simp) fun K hK=>?_;simp(disch:=omega) only[kc,ab,ca,Hm,ak,ah,bA];apply hK)
    refine dD (dJ rfl (fun _=>f7 ?_) (fun h=>by simp at h<;>omega))
    refine dD (gT ?_)
    (refine b6 [] [] (by kernel_rfl) (by simp) fun K hK=>?_;simp(disch:=omega) only[kc,ab];apply hK)
    (refine b6 [] [] (by kernel_rfl) (by simp) fun K hK=>?_;simp(disch:=omega) only[kc,ab,Nat.reduceAdd,ag,au,ao,an,bG,hx,fU,bs,aA,bN,bF,ak,Tryz.underlying118,cn,dS,ah,e4,e5];apply hK)
    (refine b6 [] [] (by kernel_rfl) (by simp) fun K hK=>?_;simp(disch:=omega) only[kc,ab,Nat.reduceAdd,ag,au,ao,an,bs,bH,cb,fU,hget,aA,bN,bF,ak,Tryz.underlying118,cn,dS,Tryz.underlying88,cJ,e6,ah];apply hK)
    (refine b6 [] [] (by kernel_rfl) (by simp) fun K hK=>?_;simp(disch:=omega) only[kc,ab,Nat.reduceAdd,bF,ak,Tryz.underlying88,cJ,b1,ag,au,ao,an,bs,bH,az,df,bJ,cb,fU,hget,cellsOf,Nat.le_refl,isPure,putCells,eh,hset,aS,aT];apply hK)
    (refine b6 [] [] (by kernel_rfl) (by simp) fun K hK=>?_;simp(disch:=omega) only[kc,ab,Nat.reduceAdd,ak,ac,Value.oneCell',ah,Int.reduceLE,Int.reduceToNat,e7];apply hK)
    ((refine f5 [] [] (by kernel_rfl) (by simp) fun K hK=>?_);simp(disch:=omega) only[kc,ab,Nat.reduceAdd,ak,ac,Value.oneCell',ah,Int.reduceLE,Int.reduceToNat,b2];apply hK)
    show jD _ _ _ _ _
    ((refine f5 [] [] (by kernel_rfl) (by simp) fun K hK=>?_);simp(disch:=omega) only[kc,ab,ak,ac,Value.oneCell',ah,bC];apply hK)
    refine⟨m',by omega,aj ⟨?_,trivial⟩ ?_⟩
    ·rw[q1,q2];rfl
    ·simp[b9,bo,bj,q1,q3,q4]
   ·have hie:m.i=n+2:=by omega
    have hseg:(m.us++u.drop m.i)[n+2]?=some u2:=by
     have:=wv hml (show u[m.i]?=some u2 by rw[hie];exact H.hu2)
     rwa[hie]at this⊢
    have hsl:=wy (u:=u) hml (by omega)
    have hget:=lA (post:=post) hp hseg
    have hset:=fun t=>rf (post:=post) t hp (show n+2<(m.us++u.drop m.i).length by omega)
    have hse: ∀t,(m.us++u.drop m.i).set (n+2) t=m.us++[t]:=fun t=>by
     have:=rk (u:=u) t hml (by omega)
     rw[List.drop_eq_nil_iff.2 (show u.length<=m.i+1 by omega),List.append_nil,hie]at this
     rw[hie];exact this
    simp only[hse]at hset
    obtain⟨b1,b2⟩:=KU u2 m.c m.b bu2 hmc hmb
    have hrl:(pre++((m.us++u.drop m.i)++post)).length=off+(n+3)+post.length:=by simp only[List.length_append]at hRl hsl⊢;omega
    by_cases hno:m.c+m.b<=u2
    ·have b3:(u2:Int)-(m.c:Int)-(m.b:Int)=((u2-(m.c+m.b):Nat):Int):=by omega
     have b4:Int.fdiv ((u2-(m.c+m.b):Nat):Int) (2^(min 63 IntKind.u64.bits))=0:=by
      rw[An (by omega)]
      have:(u2-(m.c+m.b))/2^63=0:=Nat.div_eq_of_lt (by omega)
      rw[this];rfl
     have hnl:u2-(m.c+m.b)<4294967296:=by omega
     obtain⟨q1,q2⟩:=H.right m hie hg1 hno
     have hs:=hset (u2-(m.c+m.b))
     rw[q2]at hs
     have e7:IntKind.u32.wrap (g:Int)=((natV u/natV v:Nat):Int):=by rw[rp,q1];omega
     generalize u2-(m.c+m.b)=nl at*
     generalize hRR:pre++((m.us++u.drop m.i)++post)=RR at*
     (refine b6 [] [] (by kernel_rfl) (by simp) fun K hK=>?_;simp(disch:=omega) only[kc,ab,ca,Hm,ak,ah,bf];apply hK)
     refine dD (dJ rfl (fun h=>by simp at h<;>omega) (fun _=>iE ?_))
     show jD _ _ _ _ _
     (refine b6 [] [] (by kernel_rfl) (by simp) fun K hK=>?_;simp(disch:=omega) only[kc,ab,Nat.reduceAdd,ag,au,ao,an,bs,bH,cb,fU,hget,aA,bN,bF,ak,Tryz.underlying118,cn,dS,ah,b3];apply hK)
     (refine b6 [] [] (by kernel_rfl) (by simp) fun K hK=>?_;simp(disch:=omega) only[kc,ab,Nat.reduceAdd,bF,ak,Tryz.underlying88,cJ,BN,ag,au,ao,an,bs,bH,az,df,bJ,cb,fU,hget,cellsOf,Nat.le_refl,isPure,putCells,eh,hs,aS,aT];apply hK)
     (refine dD (b6 [] [] (by kernel_rfl) (by simp) fun K hK=>?_);simp(disch:=omega) only[kc,ab,Nat.reduceAdd,ak,ac,Value.oneCell',ah,Int.reduceLE,Int.reduceToNat,b4,bA];apply hK)
     refine dJ rfl (fun _=>?_) (fun h=>by simp at h)
     (refine b6 [] [] (by kernel_rfl) (by simp) fun K hK=>?_;simp(disch:=omega) only[kc,ab,Nat.reduceAdd,bF,ak,Tryz.underlying88,cJ,e7];apply hK)
     refine vi ⟨.inr rfl,⟨[.one (.sl 0 0 off (n+3)),jk,jk,jk,.raw (.int .u32 ((natV u/natV v:Nat):Int)),jk,jk,jk,jk,jk,jk,jk,jk,jk,jk,jk,jk,jk,jk,jk,jk,jk,jk,jk,jk,jk,jk,jk,jk,jk,jk,jk,jk,jk,jk,jk,jk,jk,jk,jk,jk,jk,jk,jk,jk,jk,jk,jk,jk,jk,jk,jk,jk,jk,jk,jk,jk,jk,jk,jk,jk,jk,jk,jk,jk,jk,jk,jk,jk,jk,jk,jk,jk,jk,jk,jk,jk,jk,jk,jk,jk,jk,jk,jk,jk,jk,jk,jk,jk,jk,jk,jk,jk,jk,jk,jk,jk,jk,jk,jk,jk,jk,jk,jk,jk,jk,jk,jk,jk,jk,jk,jk,jk,jk,jk,jk,jk,jk,jk,jk,jk,jk,jk,jk,jk,jk,jk,jk,jk,jk,jk,jk,jk,jk,jk,jk,jk,jk,jk,jk,jk,jk,jk,jk,jk,jk,jk,jk,jk,jk,jk,jk,jk,jk,jk,jk,jk,jk,jk,jk,jk,jk,jk,jk,jk,jk,jk,jk,jk,jk,jk],Hm [(0,[⟨118,1,lc fU (pre++(cL (n+3) (natV u%natV v)++post))⟩])]⟩,aj ⟨rfl,trivial⟩ (by simp[b9,bo,bj]),rfl,vM _,?_⟩
     simp(disch:=omega) only[bE,Tryz.results149,aP,List.getElem?_cons_succ,List.getElem?_cons_zero]
    ·rw[if_pos (by omega)]at b2
     obtain⟨t,ht⟩: ∃t,t=u2+4294967296-(m.c+m.b):=⟨_,rfl⟩
     have ht4:t<4294967296:=by omega
     rw[show(u2+8589934592-(m.c+m.b))%4294967296=t by omega]at b1
     have hs:=hset t
     have lu':Lmb (m.us++[t]):=l6 m.lmb ht4
     have nu':(m.us++[t]).length=n+3:=by rw[List.length_append,hml,hie];rfl
     have hleft:=fun a hai=>H.left m hie hg2 (by omega) ht a hai
     have htop:(m.us++[t])[n+2]?=some t:=by rw[List.getElem?_append_right (by omega),hml,hie,Nat.sub_self];rfl
     clear hset hse hno ht
     generalize hRR:pre++((m.us++u.drop m.i)++post)=RR at*
     (refine b6 [] [] (by kernel_rfl) (by simp) fun K hK=>?_;simp(disch:=omega) only[kc,ab,ca,Hm,ak,ah,bf];apply hK)
     refine dD (dJ rfl (fun h=>by simp at h<;>omega) (fun _=>iE ?_))
     show jD _ _ _ _ _
     (refine b6 [] [] (by kernel_rfl) (by simp) fun K hK=>?_;simp(disch:=omega) only[kc,ab,Nat.reduceAdd,ag,au,ao,an,bs,bH,cb,fU,hget,aA,bN,bF,ak,Tryz.underlying118,cn,dS,ah];apply hK)
     (refine b6 [] [] (by kernel_rfl) (by simp) fun K hK=>?_;simp(disch:=omega) only[kc,ab,Nat.reduceAdd,bF,ak,Tryz.underlying88,cJ,b1,ag,au,ao,an,bs,bH,az,df,bJ,cb,fU,hget,cellsOf,Nat.le_refl,isPure,putCells,eh,hs,aS,aT];apply hK)
     (refine dD (b6 [] [] (by kernel_rfl) (by simp) fun K hK=>?_);simp(disch:=omega) only[kc,ab,Nat.reduceAdd,ak,ac,Value.oneCell',ah,Int.reduceLE,Int.reduceToNat,b2,bf];apply hK)
     refine dJ rfl (fun h=>by simp at h) (fun _=>f7 ?_)
     show jD _ _ _ _ _
     (refine b6 [] [] (by kernel_rfl) (by simp) fun K hK=>?_;simp(disch:=omega) only[kc,ab,ac,Value.oneCell'];apply hK)
     (refine dD (b6 [] [] (by kernel_rfl) (by simp) fun K hK=>?_);simp(disch:=omega) only[kc,ab,ac,Value.oneCell'];apply hK)
     refine lQ (G:=Ge (m.us++[t]) v) (fun a=>⟨[.one (.sl 0 0 off (n+3)),ca v,jk,jk,jk,.raw (.int .i64 ((n+2:Nat):Int)),jk,.raw (.int .u64 (g:Int)),jk,.raw (.int .u64 (a.c:Int)),jk,jk,jk,jk,jk,jk,jk,jk,jk,jk,jk,jk,jk,jk,jk,jk,jk,jk,jk,jk,jk,jk,jk,jk,jk,jk,jk,jk,jk,jk,jk,jk,jk,jk,jk,jk,jk,jk,jk,jk,jk,jk,jk,jk,jk,jk,jk,jk,jk,jk,jk,jk,jk,jk,jk,jk,jk,jk,jk,jk,jk,jk,jk,jk,jk,jk,jk,jk,jk,jk,jk,jk,jk,jk,jk,jk,jk,jk,jk,jk,jk,jk,jk,jk,jk,jk,jk,jk,jk,jk,jk,jk,jk,jk,jk,jk,jk,jk,jk,jk,jk,jk,jk,jk,jk,jk,jk,jk,jk,jk,jk,jk,jk,jk,jk,jk,jk,jk,jk,jk,jk,jk,jk,jk,jk,.raw (.int .i64 ((n+2:Nat):Int)),.raw (.int .i64 (a.i:Int)),jk,jk,jk,jk,jk,jk,jk,jk,jk,jk,jk,jk,jk,jk,jk,jk,jk,jk,jk,jk,jk,jk,jk,jk,jk,jk,jk,jk,jk,jk,jk,jk,jk,jk],Hm [(0,[⟨118,1,lc fU (pre++((a.us++(m.us++[t]).drop a.i)++post))⟩])]⟩) (fun a=>n+2-a.i) (Ge.start _ _) ?_ ?_
     ·refine aj ⟨?_,trivial⟩ ?_
      ·simp[Ge.start,aJ]
      ·simp[b9,bo,bj,Ge.start]
     ·intro a
      have hai:=a.hi
      have hac:=a.hc
      have hal:=a.len
      generalize m.us++[t]=U' at*
      have hsl2:=wy (u:=U') hal (by omega)
      have hrl2:(pre++((a.us++U'.drop a.i)++post)).length=off+(n+3)+post.length:=by simp only[List.length_append]at hsl2⊢;omega
      by_cases hlt2:a.i<n+2
      ·obtain⟨x,hx⟩:=getElem?_of_lt (l:=v) (k:=a.i) (by omega)
       obtain⟨y,hy⟩:=getElem?_of_lt (l:=U') (k:=a.i) (by omega)
       have hx':=dp H.lv hx
       have hy':=dp lu' hy
       have hget2:=lA (post:=post) hp (wv hal hy)
       have hset2:=rf (post:=post) ((a.c+(y+x))%4294967296) hp (show a.i<(a.us++U'.drop a.i).length by omega)
       rw[rk _ hal (by omega)]at hset2
       obtain⟨a',q1,q2,q3⟩:=Gt a hx hy H.lv lu'
       have e4:(a.c:Int)+((y:Int)+(x:Int))=((a.c+(y+x):Nat):Int):=by omega
       have e6:=rp (a.c+(y+x))
       have e7:=Dc (a.c+(y+x))
       generalize(a.c+(y+x))%4294967296=nl at*
       generalize(a.c+(y+x))/4294967296=nc at*
       generalize hR2:pre++((a.us++U'.drop a.i)++post)=R2 at*
       (refine b6 [] [] (by kernel_rfl) (by simp) fun K hK=>?_;simp(disch:=omega) only[kc,ab,ca,Hm,ak,ah,bA];apply hK)
       refine dD (dJ rfl (fun _=>f7 ?_) (fun h=>by simp at h<;>omega))
       refine dD (gT ?_)
       (refine b6 [] [] (by kernel_rfl) (by simp) fun K hK=>?_;simp(disch:=omega) only[kc,ab];apply hK)
       (refine i9 bY [] [] (by kernel_rfl) (by kernel_rfl) (by simp) fun K hK=>?_;simp(disch:=omega) only[kc,ab,Nat.reduceAdd,ag,au,ao,an,bs,bH,cb,fU,hget2,aA,bN,bF,ak,Tryz.underlying118,cn,dS,bG,hx,ah,e4];apply hK)
       (refine b6 [] [] (by kernel_rfl) (by simp) fun K hK=>?_;simp(disch:=omega) only[kc,ab,Nat.reduceAdd,bF,ak,Tryz.underlying88,cJ,e6,ag,au,ao,an,bs,bH,az,df,bJ,cb,fU,hget2,cellsOf,Nat.le_refl,isPure,putCells,eh,hset2,aS,aT];apply hK)
       ((refine f5 [] [] (by kernel_rfl) (by simp) fun K hK=>?_);simp(disch:=omega) only[kc,ab,Nat.reduceAdd,ak,ac,Value.oneCell',ah,Int.reduceLE,Int.reduceToNat,e7];apply hK)
       show jD _ _ _ _ _
       ((refine f5 [] [] (by kernel_rfl) (by simp) fun K hK=>?_);simp(disch:=omega) only[kc,ab,ak,ac,Value.oneCell',ah,bC];apply hK)
       refine⟨a',by omega,aj ⟨?_,trivial⟩ ?_⟩
       ·rw[q1,q2];rfl
       ·simp[b9,bo,bj,q1,q3]
      ·have hae:a.i=n+2:=by omega
       obtain⟨q1,q2⟩:=hleft a hae
       have hget2:(pre++((a.us++U'.drop a.i)++post))[off+(n+2)]?=some t:=by
        have:=lA (post:=post) hp (wv hal (show U'[a.i]?=some t by rw[hae];exact htop))
        rwa[hae]at this⊢
       have hset2:=rf (post:=post) ((t+a.c)%4294967296) hp (show a.i<(a.us++U'.drop a.i).length by omega)
       rw[rk _ hal (by omega),List.drop_eq_nil_iff.2 (show U'.length<=a.i+1 by omega),List.append_nil,q2,hae]at hset2
       have e4:IntKind.u32.wrap ((t:Int)+(a.c:Int))=(((t+a.c)%4294967296:Nat):Int):=by rw[<- rp];congr 1<;>omega
       have e5:(g:Int)-1=((natV u/natV v:Nat):Int):=by rw[q1];simp
       have e6:IntKind.u32.wrap ((natV u/natV v:Nat):Int)=((natV u/natV v:Nat):Int):=by rw[rp];congr 1;exact Nat.mod_eq_of_lt hqlt
       have e8:IntKind.u64.wrap ((natV u/natV v:Nat):Int)=((natV u/natV v:Nat):Int):=by
        generalize natV u/natV v=qq at*
        rw[IntKind.wrap_u64];omega
       have hRe:pre++((a.us++U'.drop a.i)++post)=pre++((a.us++U'.drop (n+2))++post):=by rw[hae]
       generalize(t+a.c)%4294967296=nl at*
       rw[<- hRe]at hset2
       generalize hR2:pre++((a.us++U'.drop a.i)++post)=R2 at*
       (refine b6 [] [] (by kernel_rfl) (by simp) fun K hK=>?_;simp(disch:=omega) only[kc,ab,ca,Hm,ak,ah,bf];apply hK)
       refine dD (dJ rfl (fun h=>by simp at h<;>omega) (fun _=>iE ?_))
       show jD _ _ _ _ _
       (refine b6 [] [] (by kernel_rfl) (by simp) fun K hK=>?_;simp(disch:=omega) only[kc,ab,Nat.reduceAdd,ag,au,ao,an,bs,bH,cb,fU,hget2,aA,bN,bF,ak,Tryz.underlying88,cJ,BN,ah,e4,az,df,bJ,cellsOf,Nat.le_refl,isPure,putCells,eh,hset2,aS,aT];apply hK)
       (refine b6 [] [] (by kernel_rfl) (by simp) fun K hK=>?_;simp(disch:=omega) only[kc,ab,Nat.reduceAdd,ak,ac,Value.oneCell',ah,e5,e8,bF,Tryz.underlying88,cJ,e6];apply hK)
       refine vi ⟨.inr rfl,⟨[.one (.sl 0 0 off (n+3)),jk,jk,jk,.raw (.int .u32 ((natV u/natV v:Nat):Int)),jk,jk,jk,jk,jk,jk,jk,jk,jk,jk,jk,jk,jk,jk,jk,jk,jk,jk,jk,jk,jk,jk,jk,jk,jk,jk,jk,jk,jk,jk,jk,jk,jk,jk,jk,jk,jk,jk,jk,jk,jk,jk,jk,jk,jk,jk,jk,jk,jk,jk,jk,jk,jk,jk,jk,jk,jk,jk,jk,jk,jk,jk,jk,jk,jk,jk,jk,jk,jk,jk,jk,jk,jk,jk,jk,jk,jk,jk,jk,jk,jk,jk,jk,jk,jk,jk,jk,jk,jk,jk,jk,jk,jk,jk,jk,jk,jk,jk,jk,jk,jk,jk,jk,jk,jk,jk,jk,jk,jk,jk,jk,jk,jk,jk,jk,jk,jk,jk,jk,jk,jk,jk,jk,jk,jk,jk,jk,jk,jk,jk,jk,jk,jk,jk,jk,jk,jk,jk,jk,jk,jk,jk,jk,jk,jk,jk,jk,jk,jk,jk,jk,jk,jk,jk,jk,jk,jk,jk,jk,jk,jk,jk,jk,jk,jk,jk],Hm [(0,[⟨118,1,lc fU (pre++(cL (n+3) (natV u%natV v)++post))⟩])]⟩,aj ⟨rfl,trivial⟩ (by simp[b9,bo,bj]),rfl,vM _,?_⟩
       simp(disch:=omega) only[bE,Tryz.results149,aP,List.getElem?_cons_succ,List.getElem?_cons_zero]
section
theorem ma: ∀(k n x:Nat),cL (k+n) x=cL k x++cL n (x/4294967296^k)
 |0,n,x=>by simp[cL]
 |k+1,n,x=>by
  rw[show k+1+n=(k+n)+1 by omega,cL,ma k n,cL,Nat.div_div_eq_div_mul,Nat.pow_succ,Nat.mul_comm 4294967296];rfl
theorem sJ: ∀(k x:Nat),cL k (x%4294967296^k)=cL k x
 |0,x=>rfl
 |k+1,x=>by
  rw[cL,cL,Nat.pow_succ,Nat.mul_comm (4294967296^k),Nat.mod_mul_right_mod,Nat.mod_mul_right_div_self,sJ k]
theorem oX (k n x y:Nat) (hx:x<4294967296^k):cL (k+n) (y*4294967296^k+x)=cL k x++cL n y:=by
 have hp:0<4294967296^k:=Nat.pow_pos (by omega)
 rw[ma,<- sJ k (y*4294967296^k+x),Nat.mul_comm y,Nat.mul_add_mod,Nat.mod_eq_of_lt hx,Nat.mul_add_div hp,Nat.div_eq_of_lt hx,Nat.add_zero]
theorem uO: ∀n,cL n 0=List.replicate n 0
 |0=>rfl
 |n+1=>by rw[cL,Nat.zero_mod,Nat.zero_div,uO n];rfl
def fq (A V k:Nat):Nat:=A%(V*4294967296^k)
def ky (A V k:Nat):Nat:=A/(V*4294967296^k)*4294967296^k
section
variable {A V k:Nat} (hV:0<V)
include hV
theorem Fq : fq A V (k + 1) / 4294967296 ^ k < V * 4294967296 := by
  have hp : 0 < 4294967296 ^ k := Nat.pow_pos (by omega)
  rw [Nat.div_lt_iff_lt_mul hp]
  have := Nat.mod_lt A (show 0 < V * 4294967296 ^ (k + 1) from Nat.mul_pos hV (Nat.pow_pos (by omega)))
  rw [Nat.pow_succ] at this
  unfold fq
  rw [Nat.pow_succ]
  calc _ < V * (4294967296 ^ k * 4294967296) := this
    _ = _ := by grind
omit hV in
theorem Fs:fq A V k=fq A V (k+1)/4294967296^k%V*4294967296^k+fq A V (k+1)%4294967296^k:=by
 unfold fq
 have e:V*4294967296^(k+1)=V*4294967296^k*4294967296:=by rw[Nat.pow_succ];grind
 have h1:A%(V*4294967296^k)=A%(V*4294967296^(k+1))%(V*4294967296^k):=by rw[e,Nat.mod_mul_right_mod]
 rw[h1]
 generalize A%(V*4294967296^(k+1))=x
 rw[Nat.mul_comm V,Nat.mod_mul]
 generalize 4294967296^k=p
 rw[Nat.add_comm,Nat.mul_comm p]
theorem Fl:ky A V k=ky A V (k+1)+fq A V (k+1)/4294967296^k/V*4294967296^k:=by
 unfold ky fq
 have hp:0<4294967296^k:=Nat.pow_pos (by omega)
 have e:V*4294967296^(k+1)=V*4294967296^k*4294967296:=by rw[Nat.pow_succ];grind
 have h1:=Nat.div_add_mod A (V*4294967296^(k+1))
 generalize hq:A/(V*4294967296^(k+1))=q at*
 generalize hr:A%(V*4294967296^(k+1))=r at*
 have h2:A/(V*4294967296^k)=q*4294967296+r/4294967296^k/V:=by
  rw[<- h1,e,Nat.mul_assoc (V*4294967296^k),Nat.mul_add_div (Nat.mul_pos hV hp),Nat.div_div_eq_div_mul,Nat.mul_comm (4294967296^k) V,Nat.mul_comm 4294967296]
 rw[h2,Nat.pow_succ]
 grind
theorem o6:fq A V (k+1)/4294967296^k/V<4294967296:=by
 rw[Nat.div_lt_iff_lt_mul hV,Nat.mul_comm]
 exact Fq hV
end
theorem Hq {A V k m:Nat} (hV:0<V) (hk:k<m) (hb:ky A V (k+1)<4294967296^m):(cL m (ky A V (k+1))).set k (fq A V (k+1)/4294967296^k/V)=cL m (ky A V k):=by
 have hd:=o6 (A:=A) (k:=k) hV
 rw[Fl (A:=A) (k:=k) hV]
 generalize fq A V (k+1)/4294967296^k/V=d at*
 obtain⟨q,hq⟩: ∃q,ky A V (k+1)=q*4294967296^(k+1):=⟨_,rfl⟩
 rw[hq]
 obtain⟨r,rfl⟩: ∃r,m=k+(1+r):=⟨m-(k+1),by omega⟩
 have e1:q*4294967296^(k+1)=(q*4294967296)*4294967296^k+0:=by rw[Nat.pow_succ];grind
 have e2:q*4294967296^(k+1)+d*4294967296^k=(q*4294967296+d)*4294967296^k+0:=by rw[Nat.pow_succ];grind
 have hp:0<4294967296^k:=Nat.pow_pos (by omega)
 rw[e2,oX _ _ _ _ hp,e1,oX _ _ _ _ hp,List.set_append_right _ _ (by rw[cK];exact Nat.le_refl _),cK,Nat.sub_self,Nat.add_comm 1 r,cL,cL,List.set_cons_zero]
 have a1:(q*4294967296+d)%4294967296=d:=by omega
 have a2:(q*4294967296+d)/4294967296=q*4294967296/4294967296:=by omega
 rw[a1,a2]
theorem H4 {A V k nb na:Nat} (hk:k+nb<=na):cL (na+1) (fq A V (k+1))=cL k (fq A V (k+1))++(cL (nb+1) (fq A V (k+1)/4294967296^k)++cL (na-(k+nb)) (fq A V (k+1)/4294967296^(k+nb+1))):=by
 conv=>lhs;rw[show na+1=k+((nb+1)+(na-(k+nb))) by omega]
 rw[ma,ma,Nat.div_div_eq_div_mul,<- Nat.pow_add,show k+(nb+1)=k+nb+1 by omega]
theorem Fr {A V k nb na:Nat} (hV:0<V) (hVB:V<=4294967296^nb) (hk:k+nb<=na):cL k (fq A V (k+1))++(cL (nb+1) (fq A V (k+1)/4294967296^k%V)++cL (na-(k+nb)) (fq A V (k+1)/4294967296^(k+nb+1)))=cL (na+1) (fq A V k):=by
 have hp:0<4294967296^k:=Nat.pow_pos (by omega)
 have hz:fq A V (k+1)/4294967296^(k+nb+1)=0:=by
  apply Nat.div_eq_of_lt
  have:=Nat.mod_lt A (show 0<V*4294967296^(k+1)from Nat.mul_pos hV (Nat.pow_pos (by omega)))
  unfold fq
  refine Nat.lt_of_lt_of_le this ?_
  have e:4294967296^(k+nb+1)=4294967296^nb*4294967296^(k+1):=by rw[<- Nat.pow_add];congr 1;omega
  rw[e]
  exact Nat.mul_le_mul_right _ hVB
 have hm:=Nat.mod_lt (fq A V (k+1)/4294967296^k) hV
 rw[Fs (A:=A) (V:=V) (k:=k),hz]
 generalize fq A V (k+1)/4294967296^k%V=u at*
 rw[<- sJ k (fq A V (k+1))]
 have hx:=Nat.mod_lt (fq A V (k+1)) hp
 generalize fq A V (k+1)%4294967296^k=x at*
 have hu:u<4294967296^(nb+1):=by
  have:4294967296^nb<=4294967296^(nb+1):=Nat.pow_le_pow_right (by omega) (by omega)
  omega
 rw[show na+1=k+((nb+1)+(na-(k+nb))) by omega,oX _ _ _ _ hx]
 congr 1
 have:=oX (nb+1) (na-(k+nb)) u 0 hu
 rw[Nat.zero_mul,Nat.zero_add]at this
 exact this.symm
/-! The shift. -/
theorem xe: ∀(x:Nat),x≠0->x<18446744073709551616->1<=Lib.bitLen x/\2^(Lib.bitLen x-1)<=x/\x<2^Lib.bitLen x:=fun x=>by
 induction x using Nat.strongRecOn with
 |_ x ih=>
  intro h0 hx
  have hh:=Lib.bitLen_half x h0 hx
  by_cases h1:x/2=0
  ·have hx1:x=1:=by omega
   subst hx1
   have:Lib.bitLen 1=1:=by decide
   rw[this];exact⟨by omega,by decide,by decide⟩
  ·obtain⟨q1,q2,q3⟩:=ih (x/2) (by omega) h1 (by omega)
   rw[hh]
   refine⟨by omega,?_,?_⟩
   ·rw[show 1+Lib.bitLen (x/2)-1=(Lib.bitLen (x/2)-1)+1 by omega,Nat.pow_succ];omega
   ·rw[Nat.add_comm,Nat.pow_succ];omega
def lz (x:Nat):Nat:=32-Lib.bitLen x
theorem G5 {x : Nat} (h0 : x ≠ 0) (hx : x < 4294967296) : lz x < 32 /\ 2147483648 <= x * 2 ^ lz x /\ x * 2 ^ lz x < 4294967296 := by
  obtain ⟨h1, h2, h3⟩ := xe x h0 (by omega)
  have h4 := Lib.bitLen_le x 32 (by omega) (by simpa using hx)
  unfold lz
  refine ⟨by omega, ?_, ?_⟩
  · calc 2147483648 = 2 ^ (Lib.bitLen x - 1) * 2 ^ (32 - Lib.bitLen x) := by
          rw [<- Nat.pow_add, show Lib.bitLen x - 1 + (32 - Lib.bitLen x) = 31 by omega]
      _ <= _ := Nat.mul_le_mul_right _ h2
  · calc x * 2 ^ (32 - Lib.bitLen x) < 2 ^ Lib.bitLen x * 2 ^ (32 - Lib.bitLen x) := Nat.mul_lt_mul_of_pos_right h3 (Nat.two_pow_pos _)
      _ = 4294967296 := by rw [<- Nat.pow_add, show Lib.bitLen x + (32 - Lib.bitLen x) = 32 by omega]
theorem Ie {b n x s : Nat} (hl : (be b).length = n + 1) (hx : (be b)[n]? = some x) (hs : 2147483648 <= x * 2 ^ s /\ x * 2 ^ s < 4294967296) (hs32 : s < 32) :
    b * 2 ^ s < 4294967296 ^ (n + 1) /\ 2147483648 * 4294967296 ^ n <= b * 2 ^ s := by
  have h1 := co hx
  rw [List.take_of_length_le (by omega), aY] at h1
  have h2 := fD (bz b) n
  have hp : 0 < 4294967296 ^ n := Nat.pow_pos (by omega)
  have hps := xX hs32
  constructor
  · -- b < (x + 1) B^n, and (x + 1) 2^s <= B, for x 2^s < B and 2^s divides B
    have h3 : (x + 1) * 2 ^ s <= 4294967296 := by
      have e : 4294967296 = 2 ^ (32 - s) * 2 ^ s := by rw [<- Nat.pow_add, show 32 - s + s = 32 by omega]
      rw [e] at hs ⊢
      exact Nat.mul_le_mul_right _ (Nat.lt_of_mul_lt_mul_right hs.2)
    calc b * 2 ^ s < (x + 1) * 4294967296 ^ n * 2 ^ s := by
          refine Nat.mul_lt_mul_of_pos_right ?_ (Nat.two_pow_pos s)
          rw [h1, Nat.add_mul, Nat.one_mul]; omega
      _ = (x + 1) * 2 ^ s * 4294967296 ^ n := by grind
      _ <= 4294967296 * 4294967296 ^ n := Nat.mul_le_mul_right _ h3
      _ = 4294967296 ^ (n + 1) := by rw [Nat.pow_succ, Nat.mul_comm]
  · calc 2147483648 * 4294967296 ^ n <= x * 2 ^ s * 4294967296 ^ n := Nat.mul_le_mul_right _ hs.1
      _ = x * 4294967296 ^ n * 2 ^ s := by grind
      _ <= b * 2 ^ s := Nat.mul_le_mul_right _ (by omega)
end
theorem Jr {A V k n : Nat} (hV1 : V < 4294967296 ^ (n + 2)) (hV2 : 2147483648 * 4294967296 ^ (n + 1) <= V) : ∃ v1 v2 u2 u1 u0, tI (cL (n + 3) (fq A V (k + 1) / 4294967296 ^ k)) (cL (n + 2) V) n v1 v2 u2 u1 u0 /\ natV (cL (n + 3) (fq A V (k + 1) / 4294967296 ^ k)) = fq A V (k + 1) / 4294967296 ^ k /\ natV (cL (n + 2) V) = V := by
  have hp : 0 < 4294967296 ^ (n + 1) := Nat.pow_pos (by omega)
  have hV : 0 < V := by omega
  have hr := Fq (A := A) (k := k) hV
  have hlt : fq A V (k + 1) / 4294967296 ^ k < 4294967296 ^ (n + 3) := by
    calc _ < V * 4294967296 := hr
      _ <= 4294967296 ^ (n + 2) * 4294967296 := Nat.mul_le_mul_right _ (Nat.le_of_lt hV1)
      _ = _ := (Nat.pow_succ ..).symm
  refine ⟨_, _, _, _, _, ⟨l5 _ _, l5 _ _, cK _ _, cK _ _, gd (by omega), gd (by omega), gd (by omega), gd (by omega), gd (by omega), ?_, ?_⟩, gu hlt, gu hV1⟩
  · have h1 : V / 4294967296 ^ (n + 1) < 4294967296 := by
      rw [Nat.div_lt_iff_lt_mul hp]
      have : 4294967296 ^ (n + 2) = 4294967296 ^ (n + 1) * 4294967296 := Nat.pow_succ ..
      omega
    rw [Nat.mod_eq_of_lt h1, Nat.le_div_iff_mul_le hp]
    exact hV2
  · rw [gu hlt, gu hV1]; exact hr
theorem C7 {a b s n m:Nat} (ha:a<4294967296^(n+2+m)) (hb:4294967296^(n+1)<=b):fq (a*2^s) (b*2^s) (m+1)=a*2^s/\ky (a*2^s) (b*2^s) (m+1)=0:=by
 have h1:a*2^s<b*2^s*4294967296^(m+1):=by
  have h2:4294967296^(n+2+m)<=b*4294967296^(m+1):=by
   have e:4294967296^(n+2+m)=4294967296^(n+1)*4294967296^(m+1):=by rw[<- Nat.pow_add];congr 1;omega
   rw[e]
   exact Nat.mul_le_mul_right _ hb
  rw[Nat.mul_right_comm]
  exact Nat.mul_lt_mul_of_pos_right (Nat.lt_of_lt_of_le ha h2) (Nat.two_pow_pos s)
 unfold fq ky
 rw[Nat.mod_eq_of_lt h1,Nat.div_eq_of_lt h1,Nat.zero_mul]
 exact⟨rfl,rfl⟩
theorem HW {a b s:Nat}:fq (a*2^s) (b*2^s) 0=a%b*2^s/\ky (a*2^s) (b*2^s) 0=a/b:=by
 unfold fq ky
 rw[Nat.pow_zero,Nat.mul_one,Nat.mul_one,Nat.mul_mod_mul_right,Nat.mul_div_mul_right _ _ (Nat.two_pow_pos s)]
 exact⟨rfl,rfl⟩
theorem JC {A V k m:Nat} (hA:A<V*4294967296^m) (hk:k<=m):ky A V k<4294967296^m:=by
 have hp:0<4294967296^k:=Nat.pow_pos (by omega)
 unfold ky
 have h1:A/(V*4294967296^k)<4294967296^(m-k):=by
  rw[<- Nat.div_div_eq_div_mul]
  apply Nat.div_lt_of_lt_mul
  apply Nat.div_lt_of_lt_mul
  have e:4294967296^m=4294967296^k*4294967296^(m-k):=by rw[<- Nat.pow_add];congr 1;omega
  rw[e]at hA
  exact hA
 have e:4294967296^m=4294967296^(m-k)*4294967296^k:=by rw[<- Nat.pow_add];congr 1;omega
 rw[e]
 exact Nat.mul_lt_mul_of_pos_right h1 hp
theorem yu {b n:Nat} (h:(be b).length=n+1): ∃x,(be b)[n]?=some x/\x≠0/\x<4294967296/\4294967296^n<=b:=by
 obtain⟨x,hx⟩: ∃x,(be b)[n]?=some x:=⟨(be b)[n],by simp[h]⟩
 have hc:=dr b
 unfold nj at hc
 rw[List.getLast?_eq_getElem?,h,Nat.add_sub_cancel,hx]at hc
 have hx0:x≠0:=fun e=>hc (by rw[e])
 have h1:=co hx
 rw[List.take_of_length_le (by omega),aY]at h1
 refine⟨x,hx,hx0,dp (bz b) hx,?_⟩
 rw[h1]
 have:1*4294967296^n<=x*4294967296^n:=Nat.mul_le_mul_right _ (by omega)
 omega
theorem CH {b:Nat} (h:(be b).length=1):(be b)[0]?=some b/\b<4294967296:=by
 obtain⟨x,hx,_,hx',_⟩:=yu (n:=0) h
 have h1:=co hx
 rw[List.take_of_length_le (by omega),aY]at h1
 simp[natV]at h1
 subst h1
 exact⟨hx,hx'⟩
theorem xI (a:Nat):a<4294967296^(be a).length:=by
 have:=gp (bz a)
 rwa[aY]at this
theorem C1 {n m x:Nat} (h:n<=m):(cL m x).take n=cL n x:=by
 obtain⟨d,rfl⟩: ∃d,m=n+d:=⟨m-n,by omega⟩
 rw[ma,List.take_left' (cK _ _)]
end Go.Proofs.YtpgghglbpcabkaaGreat
namespace Go.Proofs
open Go.Shelf
def Tryz.lays133_ren:Go.Shelf.Ren:=⟨fun|133=>147|128=>143|n=>n,fun|51=>118|3=>3|4=>4|46=>140|5=>5|9=>9|n=>n,fun|n=>n⟩
theorem Tryz.lays133:Go.Proofs.Lays.n133 Tryz.prog Tryz.lays133_ren:={
 mixed:=by kernel_rfl
 f128:=Tryz.func143.trans (congrArg some (by kernel_rfl))
 f133:=Tryz.func147.trans (congrArg some (by kernel_rfl))
 t3:=Tryz.underlying3
 a3:=Tryz.isAgg3
 z3:=Tryz.sizeOf3
 v3:=Tryz.zeroValue3
 t4:=Tryz.underlying4
 a4:=Tryz.isAgg4
 z4:=Tryz.sizeOf4
 v4:=Tryz.zeroValue4
 t5:=Tryz.underlying5
 a5:=Tryz.isAgg5
 z5:=Tryz.sizeOf5
 v5:=Tryz.zeroValue5
 t9:=Tryz.underlying9
 a9:=Tryz.isAgg9
 z9:=Tryz.sizeOf9
 v9:=Tryz.zeroValue9
 t46:=Tryz.underlying140
 a46:=Tryz.isAgg140
 z46:=Tryz.sizeOf140
 v46:=Tryz.zeroValue140
 t51:=Tryz.underlying118
 a51:=Tryz.isAgg118
 z51:=Tryz.sizeOf118
 v51:=Tryz.zeroValue118}
end Go.Proofs
namespace Go.Proofs.YtpgghglbpcabkaaGreat
open Go.RowKit
theorem Ka (x:Nat) (h:x<4294967296):CallC Tryz.prog 147 [.raw (.int .u32 (x:Int))] ⟨[],.raw (.int .i64 (lz x:Int))⟩:=by
 refine jb (by kernel_rfl) fun X w vs hX hvs ha=>?_
 obtain⟨v0,e0,r0⟩:=qI ha (j:=0) rfl
 obtain⟨rfl,_⟩:=dM (ρ:=fun _ _=>none) (H:=fun _=>[]) r0
 obtain rfl:vs= #[.int .u32 (x:Int)]:=by
  apply Array.ext_getElem?
  intro j
  match j with
  |0=>exact e0
  |j+1=>rw[Array.getElem?_eq_none (by simp at hvs;omega)];rfl
 have hb:=Lib.bitLen_le x 32 (by omega) (by simpa using h)
 have e:(32-(Lib.bitLen (x:Int).toNat:Int))=(lz x:Int):=by rw[Int.toNat_natCast];unfold lz;omega
 have:=Any.bits_LeadingZeros32 Tryz.lays133 (x:Int) w (by omega) (by omega)
 rw[e]at this
 exact this.mono fun e w' ⟨h1,h2⟩=>⟨_,h1,fun ρ H Y=>gf rfl,by rw[h2];exact Ext.refl _⟩
theorem B9 {P:Program} {f:FuncId} {args:List TV} {l:List Nat} (hl:0<l.length) (hc:callable P f=true) (h: ∀(X:Nat->Prop) (w:World) (vs:Array Value),(∀b,X b->b<w.heap.size)->vs.size=args.length->
  (∀(j:Nat) t,args[j]?=some t-> ∃v:Value,vs[j]?=some v/\t.rel (fun _ _=>none) (fun _=>[]) X w v)->Calls P f vs w fun e w'=> ∃v,e= .returned v/\w'.ownsRow w.heap.size 118 1 v l.length ((l.map fun n:Nat=>(n:Int)).map (Value.int .u32))/\Ext w w'):CallC P f args ⟨[⟨118,1,lc fU l⟩],.one (.sl 0 0 0 l.length)⟩:=
 ⟨hc,fun X w vs hX hvs ha=>(h X w vs hX hvs ha).mono fun e w' ⟨v,h1,⟨_,h2⟩,h3⟩=>by
  rcases h2 with⟨_,hn⟩|⟨g,cap,cur,hv,hg,hh,hnc,hm2,hs,ht⟩
  ·omega
  have hr:rho1 g cap 0 0=some (g,cap):=by simp[rho1]
  have hcell: ∀(i:Nat) z,l[i]?=some z->cur[i]?=some (.int .u32 (z:Int)):=fun i z hz=>by
   have h3:((l.map fun n:Nat=>(n:Int)).map (Value.int .u32))[i]?=some (.int .u32 (z:Int)):=by rw[List.getElem?_map,List.getElem?_map,hz];rfl
   rw[<- ht,List.getElem?_take]at h3
   split at h3
   ·simpa using h3
   ·cases h3
  refine⟨v,h1,rho1 g cap,⟨xx h3,fun a r o ho=>?_,fun a r a' r' o o' b c c' ho ho' _ _=>?_,fun a r o b c ho hb=>?_,fun b hb=>Nat.lt_of_lt_of_le (hX b hb) h3.size,fun a r o ho=>?_⟩,?_⟩
  ·obtain⟨rfl,rfl,rfl⟩:=qM ho
   refine⟨fun e he=>?_,Nat.zero_lt_one,?_⟩
   ·obtain⟨z,_,rfl⟩:=List.mem_map.1 he
    rfl
   ·rw[hr]
    refine⟨cur,hh,hs,by rw[eJ];exact hnc,hm2,fun i e j x he hx=>?_⟩
    simp only at he
    rw[cb]at he
    obtain⟨z,hz,rfl⟩:=Option.map_eq_some_iff.1 he
    cases j with
    |succ j=>simp[fU]at hx
    |zero=>
     simp[fU]at hx
     subst hx
     exact⟨.int .u32 (z:Int),by rw[Nat.mul_one,Nat.add_zero];exact hcell i z hz,rfl,dy.raw _ rfl⟩
  ·obtain⟨rfl,rfl,_⟩:=qM ho
   obtain⟨rfl,rfl,_⟩:=qM ho'
   exact⟨rfl,rfl⟩
  ·obtain⟨rfl,rfl,_⟩:=qM ho
   rw[hr]at hb
   injection hb with hb
   injection hb with hb _
   subst hb
   exact⟨.inl hg,fun hX'=>absurd (hX _ hX') (by omega)⟩
  ·obtain⟨rfl,rfl,rfl⟩:=qM ho
   exact eo (fj _ _)
  ·exact⟨_,rfl,by simp[eJ],.inr ⟨g,cap,hr,by rw[hv];simp⟩⟩⟩
theorem CB (l:List Nat) (h0:0<l.length) (hl:l.length<=1073741824):CallC Tryz.prog 123 [ca l] ⟨[⟨118,1,lc fU l⟩],.one (.sl 0 0 0 l.length)⟩:=by
 refine B9 h0 (by kernel_rfl) fun X w vs hX hvs ha=>?_
 obtain⟨v0,e0,r0⟩:=qI ha (j:=0) rfl
 obtain⟨A,c,rfl,hc,hR⟩:=By r0
 obtain rfl:vs= #[.slice A l.length c]:=by
  apply Array.ext_getElem?
  intro j
  match j with
  |0=>exact e0
  |j+1=>rw[Array.getElem?_eq_none (by simp at hvs;omega)];rfl
 have hlen:(l.map fun n:Nat=>(n:Int)).length=l.length:=List.length_map _
 have:=rN A c (l.map fun n:Nat=>(n:Int)) w hR (by rw[hlen];omega)
 rw[hlen]at this
 exact this
theorem CD (a b:Nat) (hb:0<b) (la:(be a).length<=268435456) (lb:(be b).length<=268435456):CallC Tryz.prog 120 [ca (be a),ca (be b)] ⟨[],xr a b⟩:=by
 have hc:=sf (be a) (be b) (bz _) (bz _) (dr _) (dr _) (by omega) (by omega)
 rw[aY,aY]at hc
 by_cases hlt:a<b
 ·rw[mH hlt]at hc
  have hcl:=se (be a) (by omega)
  unfold xr
  rw[Nat.div_eq_of_lt hlt,Nat.mod_eq_of_lt hlt,dx]
  refine ax Tryz.func120 rfl (by kernel_rfl) ?_;rw[Tryz.ntmps120]
  (refine aa [] fun K hK=>?_;simp(disch:=omega) only[kc,ab,ca,Nat.reduceAdd,List.replicate,ac,Value.oneCell'];apply hK)
  refine ae (aI ?_)
  (refine aa [⟨2,_,_,_,hc⟩] fun K hK=>?_;simp(disch:=omega) only[kc,ca,ar.a,ab,Nat.reduceAdd,ai,aN,aC,List.find?_cons,aD,aX,CallRes.plain,aF,aH,ap,noRefTV,am,aG,aE,ak,ac,Value.oneCell',ah,bA];apply hK)
  refine af rfl (fun _=>?_) (fun h=>by simp at h)
  (refine aa [⟨1,_,_,_,hcl⟩] fun K hK=>?_;simp(disch:=omega) only[kc,ca,ar.a,ab,Nat.reduceAdd,ai,aN,aC,List.find?_cons,aD,aX,CallRes.plain,aF,aH,ap,noRefTV,am,aG,aE,ac,Value.oneCell'];apply hK)
  refine ay ⟨.inr rfl,JE 4 rfl rfl ?_ rfl⟩
  simp(disch:=omega) only[kc,bE,Tryz.results120,cY,aP,bX,jt]
 obtain⟨c,hcv,hc0⟩: ∃c,c=gQ a b/\0<=c:=⟨_,rfl,AJ (by omega)⟩
 rw[<- hcv]at hc
 clear hcv
 by_cases hs:(be a).length<=2
 ·have sb:(be b).length<=2:=Nat.le_trans (nR (show b<=a by omega)) hs
  have ua:=gU hs
  have ub:=gU sb
  have h1:=oO (be a) (bz _) hs
  have h2:=oO (be b) (bz _) sb
  rw[aY]at h1 h2
  have hq:a/b<=a:=Nat.div_le_self _ _
  have hr:a%b<b:=Nat.mod_lt _ hb
  have h3:=iH (a/b) (by omega)
  have h4:=iH (a%b) (by omega)
  have hb0:(b:Int)≠0:=by omega
  have e1:IntKind.u64.wrap (Int.tdiv (a:Int) (b:Int))=((a/b:Nat):Int):=by
   rw[Int.tdiv_eq_ediv_of_nonneg (by omega),<- Int.natCast_ediv];generalize a/b=q at*;rw[IntKind.wrap_u64];omega
  have e2:Int.tmod (a:Int) (b:Int)=((a%b:Nat):Int):=by
   rw[Int.tmod_eq_emod_of_nonneg (by omega),<- Int.natCast_emod]
  unfold xr
  generalize a/b=q at*
  generalize a%b=r at*
  refine ax Tryz.func120 rfl (by kernel_rfl) ?_;rw[Tryz.ntmps120]
  (refine aa [] fun K hK=>?_;simp(disch:=omega) only[kc,ab,ca,Nat.reduceAdd,List.replicate,ac,Value.oneCell'];apply hK)
  refine ae (aI ?_)
  (refine aa [⟨2,_,_,_,hc⟩] fun K hK=>?_;simp(disch:=omega) only[kc,ca,ar.a,ab,Nat.reduceAdd,ai,aN,aC,List.find?_cons,aD,aX,CallRes.plain,aF,aH,ap,noRefTV,am,aG,aE,ak,ac,Value.oneCell',ah,bf];apply hK)
  refine af rfl (fun h=>by simp at h<;>omega) (fun _=>?_)
  (refine aa [] fun K hK=>?_;simp(disch:=omega) only[kc,ab,Nat.reduceAdd,aw,au,an,aR,ak,ac,Value.oneCell',ah,bA];apply hK)
  refine af rfl (fun _=>?_) (fun h=>by simp at h<;>omega)
  (refine aa [⟨1,_,_,_,h1⟩,⟨3,_,_,_,h2⟩] fun K hK=>?_;simp(disch:=omega) only[kc,ca,ar.a,ab,Nat.reduceAdd,ai,aN,aC,List.find?_cons,aD,aX,CallRes.plain,aF,aH,ap,noRefTV,am,aG,aE,Nat.reduceBEq];apply hK)
  (refine bS bY [⟨3,_,_,_,h3⟩,⟨7,_,_,_,h4⟩] [] (by kernel_rfl) (by simp) fun K hK=>?_;simp(disch:=omega) only[kc,ca,ar.a,ab,Nat.reduceAdd,ak,ah,ne_eq,hb0,not_false_eq_true,e1,ai,aN,aC,List.find?_cons,aD,aX,CallRes.plain,aF,aH,ap,noRefTV,am,aG,aE,e2,Nat.reduceBEq];apply hK)
  (refine ay ⟨.inr rfl,aO rfl ?_ rfl⟩;simp(disch:=omega) only[bE,Tryz.results120,cY,aP,List.getElem?_cons_succ,List.getElem?_cons_zero,Option.bind_some,bX,Option.map_some])
 by_cases h1:(be b).length=1
 ·obtain⟨g0,b32⟩:=CH h1
  have hcl:=CB (be a) (by omega) (by omega)
  have hw:=qN (be a) b (bz _) hb b32 (by omega) (by omega)
  rw[aY]at hw
  have hq:a/b<4294967296^(be a).length:=Nat.lt_of_le_of_lt (Nat.div_le_self _ _) (xI a)
  have hr:a%b<b:=Nat.mod_lt _ hb
  have ht:=fg (cL (be a).length (a/b)) (by rw[cK];omega)
  rw[p9 hq]at ht
  have hf:=iH (a%b) (by omega)
  have hpl:=cK (be a).length (a/b)
  unfold xr
  generalize a%b=r at*
  generalize cL (be a).length (a/b)=R at*
  generalize a/b=q at*
  have e1:IntKind.u64.wrap (r:Int)=(r:Int):=by rw[IntKind.wrap_u64];omega
  refine ax Tryz.func120 rfl (by kernel_rfl) ?_;rw[Tryz.ntmps120]
  (refine aa [] fun K hK=>?_;simp(disch:=omega) only[kc,ab,ca,Nat.reduceAdd,List.replicate,ac,Value.oneCell'];apply hK)
  refine ae (aI ?_)
  (refine aa [⟨2,_,_,_,hc⟩] fun K hK=>?_;simp(disch:=omega) only[kc,ca,ar.a,ab,Nat.reduceAdd,ai,aN,aC,List.find?_cons,aD,aX,CallRes.plain,aF,aH,ap,noRefTV,am,aG,aE,ak,ac,Value.oneCell',ah,bf];apply hK)
  refine af rfl (fun h=>by simp at h<;>omega) (fun _=>?_)
  (refine aa [] fun K hK=>?_;simp(disch:=omega) only[kc,ab,Nat.reduceAdd,aw,au,an,aR,ak,ac,Value.oneCell',ah,bf];apply hK)
  refine af rfl (fun h=>by simp at h<;>omega) (fun _=>?_)
  (refine aa [] fun K hK=>?_;simp(disch:=omega) only[kc,ab,Nat.reduceAdd,aw,au,an,aR,ak,ac,Value.oneCell',ah,bA];apply hK)
  refine af rfl (fun _=>?_) (fun h=>by simp at h<;>omega)
  (refine aa [⟨1,_,_,_,hcl⟩] fun K hK=>?_;simp(disch:=omega) only[kc,ca,ar.a,ab,Nat.reduceAdd,ai,aN,aC,List.find?_cons,aD,aX,CallRes.plain,List.isEmpty_cons,aF,aH,ap,Bool.not_false,noRefTV,am,Bool.or_false,aG,aE,dm,pL];apply hK)
  (refine rA 4 hw 41 0 [] [] (by simp) (by omega) (n7 rfl) (fj _ _) (by simp) (by decide) fun K hK=>?_;simp(disch:=omega) only[kc,ab,Nat.reduceAdd,ag,au,ac,Value.oneCell',ao,Int.reduceToNat,an,bG,g0,fU,bs,aA,bN];apply hK;refine⟨⟨rfl,rfl⟩,by simp,?_⟩;intro K hK;simp(disch:=omega) only[kc,Nat.reduceAdd,ab,Cl,cwD,aJ];apply hK)
  refine bT.weak ((cQ 41 (dH rfl)).trans (aj (tm:=[jk,jk,jk,jk,ca R,jk,jk,jk,.raw (.int .u32 (r:Int)),jk,jk,jk,jk,jk,jk,jk,jk,jk,jk,jk,jk,jk,jk,jk,jk,jk,jk,jk,jk,jk,jk,jk,jk,jk,jk,jk,jk,jk,jk,jk,jk,jk,jk,jk,jk,jk,jk,jk,jk,jk,jk,jk,jk,jk,jk,jk,jk,jk,jk,jk,jk,jk,jk,jk,jk,jk,jk,jk,jk,jk,jk,jk,jk,jk,jk,jk,jk,jk,jk,jk,jk,jk,jk,jk,jk,jk,jk,jk,jk,jk,jk,jk,jk,jk,jk,jk,jk,jk,jk,jk,jk,jk,jk,jk]) (l:=[]) trivial (by simp[b9,bo,bj,gH,fu,aJ,Hm,eB,d8,List.take_of_length_le,hpl]))) ?_
  (refine aa [⟨1,_,_,_,ht⟩,⟨4,_,_,_,hf⟩] fun K hK=>?_;simp(disch:=omega) only[kc,ca,ar.a,ab,Nat.reduceAdd,Hm,ai,aN,aC,List.find?_cons,aD,aX,CallRes.plain,aF,aH,ap,noRefTV,am,aG,aE,bF,ak,Tryz.underlying118,cn,e1,Nat.reduceBEq];apply hK)
  (refine ay ⟨.inr rfl,aO rfl ?_ rfl⟩;simp(disch:=omega) only[bE,Tryz.results120,cY,aP,List.getElem?_cons_succ,List.getElem?_cons_zero,Option.bind_some,bX,Option.map_some])
 obtain⟨n,hn⟩: ∃n,(be b).length=n+2:=⟨(be b).length-2,by have:=gc (n:=b);omega⟩
 obtain⟨m,hm⟩: ∃m,(be a).length=n+2+m:=⟨(be a).length-(n+2),by have:=nR (show b<=a by omega);omega⟩
 obtain⟨x,hx,hx0,hx32,hbl⟩:=yu (n:=n+1) hn
 have hz:=Ka x hx32
 obtain⟨z1,z2,z3⟩:=G5 hx0 hx32
 obtain⟨s,hsz⟩: ∃s,s=lz x:=⟨_,rfl⟩
 rw[<- hsz]at hz z1 z2 z3
 clear hsz
 obtain⟨V1,V2⟩:=Ie hn hx ⟨z2,z3⟩ z1
 have hp2:=Nat.two_pow_pos s
 have hV:0<b*2^s:=Nat.mul_pos hb hp2
 have qE:=oN (be b) s (bz _) z1 (by omega)
 have sl2:=oN (be a) s (bz _) z1 (by omega)
 rw[aY,hn]at qE
 rw[aY,hm]at sl2
 have ha':=xI a
 rw[hm]at ha'
 obtain⟨st1,st2⟩:=C7 (s:=s) ha' hbl
 have hA:a*2^s<b*2^s*4294967296^(m+1):=by
  have h2:4294967296^(n+2+m)<=b*4294967296^(m+1):=by
   have e:4294967296^(n+2+m)=4294967296^(n+1)*4294967296^(m+1):=by rw[<- Nat.pow_add];congr 1;omega
   rw[e]
   exact Nat.mul_le_mul_right _ hbl
  rw[Nat.mul_right_comm]
  exact Nat.mul_lt_mul_of_pos_right (Nat.lt_of_lt_of_le ha' h2) hp2
 obtain⟨en1,en2⟩:=HW (a:=a) (b:=b) (s:=s)
 have e1:((n+2:Nat):Int)-1=((n+1:Nat):Int):=by omega
 have e2:((n+2+m:Nat):Int)-((n+2:Nat):Int)=(m:Int):=by omega
 have e3:(m:Int)+1=((m+1:Nat):Int):=by omega
 have tk:=C1 (x:=b*2^s) (show n+2<=n+2+1 by omega)
 have kdh:=fun k=>Jr (A:=a*2^s) (k:=k) V1 V2
 have hQ: ∀k,k<=m+1->ky (a*2^s) (b*2^s) k<4294967296^(m+1):=fun k hk=>JC hA hk
 have hend:a%b*2^s<4294967296^(n+2+m+1):=by
  have h3:a%b<b:=Nat.mod_lt _ hb
  have h4:a%b*2^s<=b*2^s:=Nat.mul_le_mul_right _ (Nat.le_of_lt h3)
  have h5:4294967296^(n+2)<=4294967296^(n+2+m+1):=Nat.pow_le_pow_right (by omega) (by omega)
  omega
 have hmod:a%b<4294967296^(n+2+m+1):=Nat.lt_of_le_of_lt (Nat.le_mul_of_pos_right _ hp2) hend
 have hrw:=fun k (hk:k<=m)=>Fr (A:=a*2^s) (V:=b*2^s) (k:=k) (nb:=n+2) (na:=n+2+m) hV (Nat.le_of_lt V1) (by omega)
 have hrr:=fun k (hk:k<=m)=>H4 (A:=a*2^s) (V:=b*2^s) (k:=k) (nb:=n+2) (na:=n+2+m) (by omega)
 have hqs:=fun k (hk:k<=m)=>Hq (A:=a*2^s) (V:=b*2^s) (k:=k) (m:=m+1) hV (by omega) (hQ _ (by omega))
 have hdiv:a/b<4294967296^(m+1):=by have:=hQ 0 (by omega);rwa[en2]at this
 have sr:=tP (cL (n+2+m+1) (a%b*2^s)) s (l5 _ _) z1 (by rw[cK];omega) (by rw[cK];omega)
 rw[gu hend,cK,Nat.mul_div_cancel _ hp2]at sr
 have ht1:=fg (cL (m+1) (a/b)) (by rw[cK];omega)
 rw[p9 hdiv]at ht1
 have ht2:=fg (cL (n+2+m+1) (a%b)) (by rw[cK];omega)
 rw[p9 hmod]at ht2
 have hlV:=cK (n+2) (b*2^s)
 refine ax Tryz.func120 rfl (by kernel_rfl) ?_;rw[Tryz.ntmps120]
 (refine aa [] fun K hK=>?_;simp(disch:=omega) only[kc,ab,ca,Nat.reduceAdd,List.replicate,ac,Value.oneCell'];apply hK)
 refine ae (iV (S:=⟨[ca (be a),ca (be b),jk,jk,jk,jk,jk,jk,jk,jk,jk,jk,jk,jk,jk,jk,jk,jk,jk,jk,jk,jk,jk,jk,jk,jk,jk,jk,jk,jk,jk,jk,jk,jk,jk,jk,jk,jk,jk,jk,jk,jk,jk,jk,jk,jk,jk,jk,jk,jk,jk,jk,jk,jk,jk,jk,jk,jk,jk,jk,jk,jk,jk,jk,jk,jk,jk,jk,jk,jk,jk,jk,jk,jk,jk,jk,jk,jk,jk,jk,jk,jk,jk,jk,jk,jk,jk,jk,jk,jk,jk,jk,jk,jk,jk,jk,jk,jk,jk,jk,jk,jk,jk,jk],Hm []⟩) (aI ?_) ?_)
 ·(refine aa [⟨2,_,_,_,hc⟩] fun K hK=>?_;simp(disch:=omega) only[kc,ca,ar.a,ab,Nat.reduceAdd,ai,aN,aC,List.find?_cons,aD,aX,CallRes.plain,aF,aH,ap,noRefTV,am,aG,aE,ak,ac,Value.oneCell',ah,bf];apply hK)
  refine af rfl (fun h=>by simp at h<;>omega) (fun _=>?_)
  (refine aa [] fun K hK=>?_;simp(disch:=omega) only[kc,ab,Nat.reduceAdd,aw,au,an,aR,ak,ac,Value.oneCell',ah,bf];apply hK)
  refine af rfl (fun h=>by simp at h<;>omega) (fun _=>?_)
  (refine aa [] fun K hK=>?_;simp(disch:=omega) only[kc,ab,Nat.reduceAdd,aw,au,an,aR,ak,ac,Value.oneCell',ah,bf];apply hK)
  refine af rfl (fun h=>by simp at h<;>omega) (fun _=>aq (aj trivial ?_))
  simp[b9,bo,bj]
 ·(refine aa [⟨6,_,_,_,hz⟩] fun K hK=>?_;simp(disch:=omega) only[kc,ar.a,ab,Nat.reduceAdd,ca,Hm,aw,au,an,aR,hn,ak,ac,Value.oneCell',ah,e1,bC,ag,ao,bG,hx,fU,bs,aA,bN,ai,aN,aC,List.find?_cons,aD,aX,CallRes.plain,aF,aH,ap,noRefTV,am,aG,aE];apply hK)
  (refine aa [⟨2,_,_,_,qE⟩] fun K hK=>?_;simp(disch:=omega) only[kc,ca,ar.a,ab,Nat.reduceAdd,ai,aN,aC,List.find?_cons,aD,aX,CallRes.plain,List.isEmpty_cons,aF,aH,ap,Bool.not_false,noRefTV,am,Bool.or_false,aG,aE,dm,pL,aw,au,an,aR,hn,jh,gC,ao,aJ,bs,Nat.reduceLeDiff,Nat.add_zero,reduceCtorEq,false_and,and_false,bH];apply hK)
  refine bT.weak ((cQ 61 (dH rfl)).trans (aj (tm:=[ca (be a),ca (be b),jk,jk,jk,jk,jk,jk,jk,.raw (.int .i64 (s:Int)),ca (cL (n+2) (b*2^s)),jk,jk,jk,jk,jk,jk,jk,jk,jk,jk,jk,jk,jk,jk,jk,jk,jk,jk,jk,jk,jk,jk,jk,jk,jk,jk,jk,jk,jk,jk,jk,jk,jk,jk,jk,jk,jk,jk,jk,jk,jk,jk,jk,jk,jk,jk,jk,jk,jk,jk,jk,jk,jk,jk,jk,jk,jk,jk,jk,jk,jk,jk,jk,jk,jk,jk,jk,jk,jk,jk,jk,jk,jk,jk,jk,jk,jk,jk,jk,jk,jk,jk,jk,jk,jk,jk,jk,jk,jk,jk,jk,jk,jk]) (l:=[]) trivial (by simp[b9,bo,bj,gH,fu,aJ,Hm,eB,d8,tk]))) ?_
  generalize hvv:cL (n+2) (b*2^s)=vv at*
  (refine aa [⟨2,_,_,_,sl2⟩] fun K hK=>?_;simp(disch:=omega) only[kc,ca,ar.a,ab,Nat.reduceAdd,Hm,ai,aN,aC,List.find?_cons,aD,aX,CallRes.plain,List.isEmpty_cons,aF,aH,ap,Bool.not_false,noRefTV,am,Bool.or_false,aG,aE,dm,pL];apply hK)
  (refine aa [] fun K hK=>?_;simp(disch:=omega) only[kc,ab,Nat.reduceAdd,aw,au,an,aR,hm,hn,ak,ah,e2,bC,ac,Value.oneCell',e3,bZ,aN,aC,dn,bs,eA,Int.natCast_nonneg,and_true,kZ,bH,aJ,Nat.reduceEqDiff];apply hK)
  (refine ae (aa [] fun K hK=>?_);simp(disch:=omega) only[kc,ab,Nat.reduceAdd,aw,au,an,aR,hm,hn,ak,ah,e2,bC];apply hK)
  generalize hAe:a*2^s=A at*
  generalize hVe:b*2^s=V at*
  refine bD (G:=mz (m+1)) (fun g=>⟨[jk,ca (be b),jk,jk,.one (.sl 74 0 0 (m+1)),jk,jk,jk,jk,.raw (.int .i64 (s:Int)),ca vv,.one (.sl 67 0 0 (n+2+m+1)),.raw (.int .i64 ((g.i:Int)-1)),jk,jk,jk,jk,jk,jk,jk,jk,jk,jk,jk,jk,jk,jk,jk,jk,jk,jk,jk,jk,jk,jk,jk,jk,jk,jk,jk,jk,jk,jk,jk,jk,jk,jk,jk,jk,jk,jk,jk,jk,jk,jk,jk,jk,jk,jk,jk,jk,jk,jk,jk,jk,jk,jk,jk,jk,jk,jk,jk,jk,jk,jk,jk,jk,jk,jk,jk,jk,jk,jk,jk,jk,jk,jk,jk,jk,jk,jk,jk,jk,jk,jk,jk,jk,jk,jk,jk,jk,jk,jk,jk],Hm [(67,[⟨118,1,lc fU (cL (n+2+m+1) (fq A V g.i))⟩]),(74,[⟨118,1,lc fU (cL (m+1) (ky A V g.i))⟩])]⟩) (fun g=>g.i) ⟨m+1,by omega⟩ ?_ ?_
  ·refine aj ⟨?_,?_,trivial⟩ ?_
   ·simp[st1,aJ,Hm]
   ·simp[st2,aJ,Hm,uO]
   ·simp[b9,bo,bj]
  ·rintro⟨i,hi⟩
   simp only
   by_cases h0:0<i
   ·obtain⟨k,rfl⟩: ∃k,i=k+1:=⟨i-1,by omega⟩
    have hk:k<=m:=by omega
    have ek:((k+1:Nat):Int)-1=(k:Int):=by omega
    have ek2:(k:Int)+((n+2:Nat):Int)+1=((k+n+3:Nat):Int):=by omega
    have ek3:k+n+3-k=n+3:=by omega
    obtain⟨v1,v2,u2,u1,u0,K,nU,nV⟩:=kdh k
    have w1:=hrw k hk
    have w2:=hrr k hk
    rw[show n+2+1=n+3 from rfl]at w1 w2
    have w3:=hqs k hk
    have gq:=gd (x:=ky A V (k+1)) (show k<m+1 by omega)
    have hds:=tO (cL k (fq A V (k+1))) _ (cL (n+2+m-(k+(n+2))) (fq A V (k+1)/4294967296^(k+(n+2)+1))) _ k n v1 v2 u2 u1 u0 (cK _ _) K (by rw[<- w2,cK];omega)
    rw[nU,nV]at hds
    rw[w1,<- w2]at hds
    have qd:=o6 (A:=A) (k:=k) hV
    have l1:=cK (m+1) (ky A V (k+1))
    have l2:=cK (n+2+m+1) (fq A V (k+1))
    obtain⟨R',hR'⟩: ∃R',R'=cL (n+2+m+1) (fq A V k):=⟨_,rfl⟩
    obtain⟨Q',hQ'⟩: ∃Q',Q'=cL (m+1) (ky A V k):=⟨_,rfl⟩
    rw[<- hR']at hds
    rw[<- hQ']at w3
    clear w1 w2 K nU nV
    generalize fq A V (k+1)/4294967296^k/V=d at*
    generalize ky A V (k+1)/4294967296^k%4294967296=od at*
    generalize cL (m+1) (ky A V (k+1))=Q0 at*
    generalize cL (n+2+m+1) (fq A V (k+1))=R0 at*
    (refine ae (aa [] fun K hK=>?_);simp(disch:=omega) only[kc,ab,ca,ek,Hm,ak,ac,Value.oneCell',ah,Int.natCast_nonneg,bA];apply hK)
    refine af rfl (fun _=>aq ?_) (fun h=>by simp at h<;>omega)
    refine ae (aI ?_)
    ((refine yO 11 hds 67 0 [] [] (by simp) (by omega) (n7 rfl) (fj _ _) (by simp) (by decide) fun K hK=>?_);simp(disch:=omega) only[kc,ab,Nat.reduceAdd,aw,au,an,aR,hn,ak,ah,bC,ac,Value.oneCell',ek2,jh,gC,ao,Nat.reduceEqDiff,bs,Nat.reduceLeDiff,ek3,bH];apply hK;refine⟨⟨rfl,rfl⟩,by simp,?_⟩;intro K hK;simp(disch:=omega) only[kc,Nat.reduceAdd,ab,Cl,cwD,Nat.reduceEqDiff,ag,au,ao,an,aJ,cP,bs,bH,az,df,bJ,cb,fU,gq,cellsOf,Nat.le_refl,isPure,putCells,eh,w3,aS,aT];apply hK)
    show bT _ _ _ _
    ((refine aU [] [] (by simp) fun K hK=>?_);simp(disch:=omega) only[kc,ab,Nat.reduceAdd,ak,ac,Value.oneCell',ah,bC];apply hK)
    refine⟨⟨k,by omega⟩,by simp only;omega,aj ⟨?_,?_,trivial⟩ ?_⟩
    ·simp[aJ,Hm,hR']
    ·simp[aJ,Hm,hQ']
    ·simp[b9,bo,bj]
   ·have hi0:i=0:=by omega
    subst hi0
    rw[en1,en2]
    generalize cL (n+2+m+1) (a%b*2^s)=R0 at*
    unfold xr
    have l1:=cK (m+1) (a/b)
    have l2:=cK (n+2+m+1) (a%b)
    generalize cL (n+2+m+1) (a%b)=R1 at*
    generalize cL (m+1) (a/b)=Q1 at*
    generalize a/b=q at*
    generalize a%b=r at*
    (refine ae (aa [] fun K hK=>?_);simp(disch:=omega) only[kc,ab,ca,Hm,ak,ac,Value.oneCell',ah,bf];apply hK)
    refine af rfl (fun h=>by simp at h<;>omega) (fun _=>bv ?_)
    show bT _ _ _ _
    (refine rA 2 sr 67 0 [] [] (by simp) (by omega) (n7 rfl) (fj _ _) (by simp) (by decide) fun K hK=>?_;simp(disch:=omega) only[kc,ab];apply hK;refine⟨⟨rfl,rfl⟩,by simp,?_⟩;intro K hK;simp(disch:=omega) only[kc,Nat.reduceAdd,Cl,cwD,Nat.reduceEqDiff];apply hK)
    refine bT.weak ((cQ 67 (dH rfl)).trans ((cQ 74 (dH rfl)).trans (aj (tm:=[jk,jk,jk,jk,ca Q1,jk,jk,jk,jk,jk,jk,ca R1,jk,jk,jk,jk,jk,jk,jk,jk,jk,jk,jk,jk,jk,jk,jk,jk,jk,jk,jk,jk,jk,jk,jk,jk,jk,jk,jk,jk,jk,jk,jk,jk,jk,jk,jk,jk,jk,jk,jk,jk,jk,jk,jk,jk,jk,jk,jk,jk,jk,jk,jk,jk,jk,jk,jk,jk,jk,jk,jk,jk,jk,jk,jk,jk,jk,jk,jk,jk,jk,jk,jk,jk,jk,jk,jk,jk,jk,jk,jk,jk,jk,jk,jk,jk,jk,jk,jk,jk,jk,jk,jk,jk]) (l:=[]) trivial (by simp[b9,bo,bj,gH,fu,aJ,Hm,eB,d8,List.take_of_length_le,l1,l2])))) ?_
    (refine aa [⟨1,_,_,_,ht1⟩,⟨3,_,_,_,ht2⟩] fun K hK=>?_;simp(disch:=omega) only[kc,ca,ar.a,ab,Nat.reduceAdd,Hm,ai,aN,aC,List.find?_cons,aD,aX,CallRes.plain,aF,aH,ap,noRefTV,am,aG,aE,Nat.reduceBEq];apply hK)
    (refine ay ⟨.inr rfl,aO rfl ?_ rfl⟩;simp(disch:=omega) only[bE,Tryz.results120,cY,aP,List.getElem?_cons_succ,List.getElem?_cons_zero,Option.bind_some,bX,Option.map_some])
end Go.Proofs.YtpgghglbpcabkaaGreat
