/-
  Part 15 of a proof (walks and plain facts).
-/
import Derived.Test.YtfgeomlagfomgaaDoorP13
set_option linter.all false
set_option maxRecDepth 100000
set_option maxHeartbeats 64000000
open Nat renaming reduceAdd → aa
open Nat renaming reduceEqDiff → ab
open List renaming replicate → ae
open Nat renaming reduceBEq → af
open Int renaming reduceToNat → am
open List renaming mem_of_getElem? → au
open Nat renaming lt_of_le_of_lt → aA
namespace Go.Proofs.YtfgeomlagfomgaaDoor
open Go.RowKit
theorem jg {pre u post:List Nat} {off i x:Nat} (hp:pre.length=off) (h:u[i]?=some x):(pre++(u++post))[off+i]?=some x:=by
 have hi:=(List.getElem?_eq_some_iff.1 h).1;rw[List.getElem?_append_right (by omega),hp,Nat.add_sub_cancel_left,List.getElem?_append_left hi,h]
theorem n6 {pre u post:List Nat} {off i:Nat} (v:Nat) (hp:pre.length=off) (hi:i<u.length):(pre++(u++post)).set (off+i) v=pre++(u.set i v++post):=by
 rw[List.set_append_right _ _ (by omega),hp,Nat.add_sub_cancel_left,List.set_append_left _ _ hi]
theorem n9 {us u:List Nat} {i:Nat} (v:Nat) (hus:us.length=i) (hi:i<u.length):(us++u.drop i).set i v=(us++[v])++u.drop (i+1):=by
 have hd:u.drop i=u[i]::u.drop (i+1):=List.drop_eq_getElem_cons hi;rw[hd,List.set_append_right _ _ (by omega),hus,Nat.sub_self,List.set_cons_zero,List.append_assoc];rfl
theorem sT {us u:List Nat} {i x:Nat} (hus:us.length=i) (hx:u[i]?=some x):(us++u.drop i)[i]?=some x:=by
 rw[List.getElem?_append_right (by omega),hus,Nat.sub_self,List.getElem?_drop,Nat.add_zero,hx]
theorem sV {us u:List Nat} {i:Nat} (hus:us.length=i) (hi:i<=u.length):(us++u.drop i).length=u.length:=by
 rw[List.length_append,hus,List.length_drop];omega
theorem AY {P:Program} {k:Nat} {c z:Code} {Q:Exit->AS->Prop} {s:AS} (S:Nat->AS) (p:Nat->Prop) (h1:dF P k c (kw (fun s'=> ∃g,p g/\bX s' (S g)) Q) s) (h2: ∀g,p g->dF P k z Q (S g)):dF P k c (kw (dF P k z Q) Q) s:=h1.mono fun e s' h=>by
 cases e with
 |normal=>obtain⟨g,hp,hw⟩:=h;exact(h2 g hp).weak hw
 |_=>exact h
theorem JJ (y lo b:Nat) (hy:y<4294967296) (hlo:lo<4294967296) (hb:b<=1):IntKind.u32.wrap (IntKind.u64.wrap (IntKind.u64.wrap ((y:Int)-(lo:Int))-(b:Int)))=(((y+8589934592-(lo+b))%4294967296:Nat):Int)/\
  Int.fdiv (IntKind.u64.wrap (IntKind.u64.wrap ((y:Int)-(lo:Int))-(b:Int))) (2^(min 63 IntKind.u64.bits))=(((if y<lo+b then 1 else 0):Nat):Int):=by
 constructor
 ·rw[IntKind.wrap_u32,IntKind.wrap_u64,IntKind.wrap_u64];omega
 rw[IntKind.wrap_u64,IntKind.wrap_u64];show Int.fdiv _ 9223372036854775808=_;rw[Int.fdiv_eq_ediv_of_nonneg _ (by omega)];split<;>omega
theorem ql (pre u post v:List Nat) (off n v1 v2 u2 u1 u0:Nat) (hp:pre.length=off) (H:qg u v n v1 v2 u2 u1 u0) (bR:(pre++(u++post)).length<=536870912):
  ni Tryd.prog 71 [.undef,bN v] 0 off (n+3) ⟨86,1,lc fU (pre++(u++post))⟩ ⟨86,1,lc fU (pre++(bf (n+3) (natV u%natV v)++post))⟩ (.raw (.int .u32 ((natV u/natV v:Nat):Int))):=by
 have nu:=H.nu;have nv:=H.nv;have hv1:=H.hv1;have hv2:=H.hv2;have bv1:=H.bv1;have bv2:=H.bv2;have bu2:=H.bu2;have bu1:=H.bu1;have bu0:=H.bu0;have top:=H.top;have hqlt:=H.q_lt;have hRl:(pre++(u++post)).length=off+(n+3)+post.length:=by simp[hp,nu];omega
 have gu2:=jg (post:=post) hp H.hu2;have gu1:=jg (post:=post) hp H.hu1;have gu0:=jg (post:=post) hp H.hu0;refine oG Tryd.func71 rfl (by kernel_rfl) (by simp) (by omega) (by simp[lc]at hRl⊢;omega) (de _ _) rfl (by simp[lc,a7,nu]) (de _ _) rfl ?_;rw[Tryd.ntmps71];have e2:((n+2:Nat):Int)-1=((n+1:Nat):Int):=by omega
 have e3:((n+2:Nat):Int)-2=((n:Nat):Int):=by omega
 refine aG (by kernel_rfl) fun _ K=>?_;simp only[kd,bN,aa,ae];apply K
 refine aG (by kernel_rfl) fun _ K=>?_;simp only[kd,aa,nv];apply K
 have a1:=qf (a:=u2) (s:=32) (by omega) (by omega);have a2:=wQ (u2*2^32) u1 (by omega) (by omega);rw[sJ u2 u1 32 (by omega),show u2*2^32+u1=u2*4294967296+u1 from rfl]at a2;obtain⟨high,hhigh⟩: ∃high,high=u2*4294967296+u1:=⟨_,rfl⟩;rw[<- hhigh]at a2;obtain⟨k0,hk1,hk2⟩: ∃k:Iy u v v1 high,k.g=high/v1/\k.r=high%v1:=by rw[hhigh];exact H.first
 have hk3:=k0.le;have a3:Int.tdiv (high:Int) (v1:Int)=(k0.g:Int):=by rw[hk1];exact(Int.ofNat_tdiv _ _).symm
 have a4:Int.tmod (high:Int) (v1:Int)=(k0.r:Int):=by rw[hk2];exact(Int.ofNat_tmod _ _).symm
 generalize hR:pre++(u++post)=R at*
 refine ef bE (by kernel_rfl) (by kernel_rfl) fun _ K=>?_;simp(disch:=omega) only[kd,aa,famH,gu2,dj,Int.reduceLE,am,a1,e2,aS,gu1,a2];apply K
 refine ef bE (by kernel_rfl) (by kernel_rfl) fun _ K=>?_;simp(disch:=omega) only[kd,aa,e2,aS,hv1,dj,a3,a4];apply K
 refine bI (AY (fun g=>⟨(.one (.sl 0 0 off (n+3))::bN v::jk::jk::jk::.raw (.int .i64 ((n+2:Nat):Int))::jk::.raw (.int .u64 (g:Int))::j16 (j16 (j16 (j16 (j16 (j16 (j16 (j16 (j16 (j16 (jk::jk::jk::[]))))))))))),Hm [(0,[⟨86,1,lc fU R⟩])]⟩) (fun g=>natV u/natV v<=g/\g<=natV u/natV v+1/\g<=4294967296) ?_ ?_)
 ·have H2:=H;subst hhigh;refine eH (G:=Iy u v v1 (u2*4294967296+u1)) (fun k=>⟨(.one (.sl 0 0 off (n+3))::bN v::jk::jk::jk::.raw (.int .i64 ((n+2:Nat):Int))::jk::.raw (.int .u64 (k.g:Int))::.raw (.int .u64 (k.r:Int))::j16 (j16 (j16 (j16 (j16 (j16 (j16 (j16 (j16 (j16 (jk::jk::[]))))))))))),Hm [(0,[⟨86,1,lc fU R⟩])]⟩) (fun k=>k.g) k0 ?_ ?_
  ·refine aC ⟨rfl,trivial⟩ ?_;simp[wk]
  intro k;have kg:=k.le;have kr:=k.hr;have keq:=k.eq;have kge:=k.ge;have e5:=Gq k.g
  -- the guess goes down
  have down:(4294967296<=k.g\/k.r*4294967296+u0<k.g*v2)->natV u/natV v<k.g:=H2.down k;have next:natV u/natV v<k.g->k.r+v1<4294967296-> ∃k':Iy u v v1 (u2*4294967296+u1),k'.g=k.g-1/\k'.r=k.r+v1:=fun h1 h2=>by
   refine⟨⟨k.g-1,k.r+v1,?_,by omega,by omega,h2⟩,rfl,rfl⟩;refine Eq.trans ?_ keq;have:k.g*v1=(k.g-1)*v1+v1:=by
    obtain⟨m,hm⟩: ∃m,k.g=m+1:=⟨k.g-1,(Nat.succ_pred_eq_of_pos (aA (Nat.zero_le _) h1)).symm⟩;rw[hm,Nat.add_sub_cancel,Nat.add_mul,Nat.one_mul]
   omega
  have stop:natV u/natV v<k.g->4294967296<=k.r+v1->natV u/natV v<=k.g-1/\k.g-1<=natV u/natV v+1/\k.g-1<=4294967296:=fun h1 h2=>by
   refine⟨by omega,?_,by omega⟩;refine H2.near (r:=k.r+v1) ?_ (by omega) ?_
   ·refine Eq.trans ?_ keq;have:k.g*v1=(k.g-1)*v1+v1:=by
     obtain⟨m,hm⟩: ∃m,k.g=m+1:=⟨k.g-1,(Nat.succ_pred_eq_of_pos (aA (Nat.zero_le _) h1)).symm⟩;rw[hm,Nat.add_sub_cancel,Nat.add_mul,Nat.one_mul]
    omega
   have h3:(k.g-1)*v2<=4294967296*4294967295:=Nat.mul_le_mul (by omega) (by omega);have h4:4294967296*4294967296<=(k.r+v1)*4294967296:=Nat.mul_le_mul_right _ h2;omega
  have e7:(k.g:Int)-1=((k.g-1:Nat):Int)\/k.g=0:=by omega
  have e8:(k.r:Int)+(v1:Int)=((k.r+v1:Nat):Int):=by omega
  have e9:=Gq (k.r+v1);by_cases hbig:4294967296<=k.g
  ·have hd:=down (.inl hbig)
   replace e7:=e7.resolve_right (by omega)
   refine bI (ef bE (by kernel_rfl) (by kernel_rfl) fun _ K=>?_);simp(disch:=omega) only[kd,aa,bN,Int.reduceLE,am,e5,reduceCtorEq];apply K;refine ic rfl (d7 ?_);refine dC ?_;refine aG (by kernel_rfl) fun _ K=>?_;simp(disch:=omega) only[kd,aa,e7,dj];apply K
   refine aG (by kernel_rfl) fun _ K=>?_;simp(disch:=omega) only[kd,aa,e2,aS,hv1,dj,e8];apply K
   by_cases hover:4294967296<=k.r+v1
   ·refine aG (by kernel_rfl) fun _ K=>?_;simp(disch:=omega) only[kd,aa,Int.reduceLE,am,e9];apply K
    refine ic rfl (d6 ?_);refine⟨k.g-1,stop hd hover,aC ⟨rfl,trivial⟩ ?_⟩;simp[wk]
   obtain⟨k',q1,q2⟩:=next hd (by omega);refine aG (by kernel_rfl) fun _ K=>?_;simp(disch:=omega) only[kd,aa,Int.reduceLE,am,e9];apply K
   refine fJ rfl (d7 ?_);refine⟨k',by omega,aC ⟨rfl,trivial⟩ ?_⟩;simp[wk,q1,q2]
  have hmul:k.g*v2<=4294967295*4294967295:=Nat.mul_le_mul (by omega) (by omega);have e10:(k.g:Int)*(v2:Int)=((k.g*v2:Nat):Int):=by simp
  have e11:=qf (a:=k.r) (s:=32) (by omega) (by omega);have e12:=wQ (k.r*2^32) u0 (by omega) (by omega);rw[sJ k.r u0 32 (by omega),show k.r*2^32+u0=k.r*4294967296+u0 from rfl]at e12;by_cases hc:k.r*4294967296+u0<k.g*v2
  ·have hd:=down (.inr hc)
   replace e7:=e7.resolve_right (fun e=>by rw[e]at hd;exact absurd hd (Nat.not_lt_zero _))
   generalize k.g*v2=gv at*
   refine bI (ef bE (by kernel_rfl) (by kernel_rfl) fun _ K=>?_);simp(disch:=omega) only[kd,aa,bN,Int.reduceLE,am,e5,e3,aS,hv2,dj,e10,e11,gu0,e12];apply K;refine ic rfl (d7 ?_);refine dC ?_;refine aG (by kernel_rfl) fun _ K=>?_;simp(disch:=omega) only[kd,aa,e7,dj];apply K
   refine aG (by kernel_rfl) fun _ K=>?_;simp(disch:=omega) only[kd,aa,e2,aS,hv1,dj,e8];apply K
   by_cases hover:4294967296<=k.r+v1
   ·refine aG (by kernel_rfl) fun _ K=>?_;simp(disch:=omega) only[kd,aa,Int.reduceLE,am,e9];apply K
    refine ic rfl (d6 ?_);refine⟨k.g-1,stop hd hover,aC ⟨rfl,trivial⟩ ?_⟩;simp[wk]
   obtain⟨k',q1,q2⟩:=next hd (by omega);refine aG (by kernel_rfl) fun _ K=>?_;simp(disch:=omega) only[kd,aa,Int.reduceLE,am,e9];apply K
   refine fJ rfl (d7 ?_);refine⟨k',by omega,aC ⟨rfl,trivial⟩ ?_⟩;simp[wk,q1,q2]
  have hnear:=H2.near keq (by omega) (Nat.le_of_not_lt hc);generalize k.g*v2=gv at*
  refine bI (ef bE (by kernel_rfl) (by kernel_rfl) fun _ K=>?_);simp(disch:=omega) only[kd,aa,bN,Int.reduceLE,am,e5,e3,aS,hv2,dj,e10,e11,gu0,e12];apply K;refine fJ rfl (d6 ?_);refine⟨k.g,⟨kge,hnear,by omega⟩,aC ⟨rfl,trivial⟩ ?_⟩;simp[wk]
 rintro g ⟨hg1,hg2,hg3⟩;subst hR;clear gu2 gu1 gu0 a1 a2 a3 a4 hk1 hk2 hk3 k0;refine aG (by kernel_rfl) fun _ K=>?_;simp only[kd,bN];apply K
 refine bI (aG (by kernel_rfl) fun _ K=>?_);simp only[kd];apply K;refine eH (G:=DN u v g) (fun m=>⟨(.one (.sl 0 0 off (n+3))::bN v::jk::jk::jk::.raw (.int .i64 ((n+2:Nat):Int))::jk::.raw (.int .u64 (g:Int))::jk::.raw (.int .u64 (m.c:Int))::.raw (.int .u64 (m.b:Int))::j16 (j16 (j16 (j16 (j4 (jk::jk::jk::.raw (.int .i64 ((n+2:Nat):Int))::rN m.i::j16 (j16 (j16 (j16 (j16 (j4 (jk::jk::jk::[])))))))))))),Hm [(0,[⟨86,1,lc fU (pre++((m.us++u.drop m.i)++post))⟩])]⟩) (fun m=>n+2-m.i) (DN.start u v g) ?_ ?_
 ·refine aC ⟨?_,trivial⟩ ?_
  ·simp[Hm,DN.start]
  simp[wk,DN.start]
 intro m;have hmi:=m.hi;have hmc:=m.hc;have hmb:=m.hb;have hml:=m.len;by_cases hlt:m.i<n+2
 ·obtain⟨x,hx⟩:=getElem?_of_lt (l:=v) (k:=m.i) (by omega);obtain⟨y,hy⟩:=getElem?_of_lt (l:=u) (k:=m.i) (by omega);have hx':=cd H.lv hx;have hy':=cd H.lu hy;obtain⟨c1,c2⟩:=uH hg3 hx' hmc;have hgx:g*x<=4294967296*4294967295:=Nat.mul_le_mul hg3 (by omega);have e4:(g:Int)*(x:Int)=((g*x:Nat):Int):=by simp
  have e5:(m.c:Int)+((g*x:Nat):Int)=((m.c+g*x:Nat):Int):=by simp
  have hseg:=sT hml hy;have hsl:=sV (u:=u) hml (by omega);have hget:=jg (post:=post) hp hseg;have hlo:(m.c+g*x)%4294967296<4294967296:=Nat.mod_lt _ (by omega);obtain⟨b1,b2⟩:=JJ y ((m.c+g*x)%4294967296) m.b hy' hlo hmb;obtain⟨m',q1,q2,q3,q4⟩:=ER m (l:=(y+8589934592-((m.c+g*x)%4294967296+m.b))%4294967296) (b':=if y<(m.c+g*x)%4294967296+m.b then 1 else 0) hg3 hx hy H.lv (Nat.mod_lt _ (by omega)) (by split<;>omega) (by split<;>omega);have hset:=n6 (post:=post) ((y+8589934592-((m.c+g*x)%4294967296+m.b))%4294967296) hp (show m.i<(m.us++u.drop m.i).length by omega);rw[n9 _ hml (by omega)]at hset;have e6:=yH (m.c+g*x);have e7:=Gq (m.c+g*x);have hrl:(pre++((m.us++u.drop m.i)++post)).length=off+(n+3)+post.length:=by simp only[List.length_append]at hRl hsl⊢;omega
  generalize(m.c+g*x)%4294967296=lo at*
  generalize(m.c+g*x)/4294967296=hi' at*
  generalize g*x=gx at*
  generalize(if y<lo+m.b then 1 else 0:Nat)=nb at*
  generalize(y+8589934592-(lo+m.b))%4294967296=nl at*
  generalize hRR:pre++((m.us++u.drop m.i)++post)=RR at*
  refine aG (by kernel_rfl) fun _ K=>?_;simp(disch:=omega) only[kd,bN];apply K
  refine rJ rfl ?_;refine bI (dC ?_);refine aG (by kernel_rfl) fun _ K=>?_;simp only[kd];apply K
  refine aG (by kernel_rfl) fun _ K=>?_;simp(disch:=omega) only[kd,aa,hx,dj,e4,e5];apply K
  refine aG (by kernel_rfl) fun _ K=>?_;simp(disch:=omega) only[kd,aa,hget,dj,e6];apply K
  refine aG (by kernel_rfl) fun _ K=>?_;simp(disch:=omega) only[kd,aa,b1,hget,cQ,hset];apply K
  refine aG (by kernel_rfl) fun _ K=>?_;simp only[kd,aa,Int.reduceLE,am,e7];apply K
  refine ch (by kernel_rfl) fun _ K=>?_;simp only[kd,aa,Int.reduceLE,am,b2];apply K
  show dF _ _ _ _ _;refine ch (by kernel_rfl) fun _ K=>?_;simp(disch:=omega) only[kd,aS];apply K
  refine⟨m',by omega,aC ⟨?_,trivial⟩ ?_⟩
  ·rw[q1,q2];rfl
  simp[wk,q1,q3,q4]
 have hie:m.i=n+2:=by omega
 have hseg:(m.us++u.drop m.i)[n+2]?=some u2:=by
  have:=sT hml (show u[m.i]?=some u2 by rw[hie];exact H.hu2);rwa[hie]at this⊢
 have hsl:=sV (u:=u) hml (by omega);have hget:=jg (post:=post) hp hseg;have hset:=fun t=>n6 (post:=post) t hp (show n+2<(m.us++u.drop m.i).length by omega)
 have hse: ∀t,(m.us++u.drop m.i).set (n+2) t=m.us++[t]:=fun t=>by
  have:=n9 (u:=u) t hml (by omega);rw[List.drop_eq_nil_iff.2 (show u.length<=m.i+1 by omega),List.append_nil,hie]at this;rw[hie];exact this
 simp only[hse]at hset;obtain⟨b1,b2⟩:=JJ u2 m.c m.b bu2 hmc hmb;have hrl:(pre++((m.us++u.drop m.i)++post)).length=off+(n+3)+post.length:=by simp only[List.length_append]at hRl hsl⊢;omega
 by_cases hno:m.c+m.b<=u2
 ·have b3:(u2:Int)-(m.c:Int)-(m.b:Int)=((u2-(m.c+m.b):Nat):Int):=by omega
  have b4:Int.fdiv ((u2-(m.c+m.b):Nat):Int) (2^(min 63 IntKind.u64.bits))=0:=by
   rw[xp (by omega)];have:(u2-(m.c+m.b))/2^63=0:=Nat.div_eq_of_lt (by omega);rw[this];rfl
  have hnl:u2-(m.c+m.b)<4294967296:=by omega
  obtain⟨q1,q2⟩:=H.right m hie hg1 hno;have hs:=hset (u2-(m.c+m.b));rw[q2]at hs;have e7:IntKind.u32.wrap (g:Int)=((natV u/natV v:Nat):Int):=by rw[yH,q1];omega
  generalize u2-(m.c+m.b)=nl at*
  generalize hRR:pre++((m.us++u.drop m.i)++post)=RR at*
  refine aG (by kernel_rfl) fun _ K=>?_;simp(disch:=omega) only[kd,bN];apply K
  refine rI rfl ?_;show dF _ _ _ _ _;refine aG (by kernel_rfl) fun _ K=>?_;simp(disch:=omega) only[kd,aa,hget,dj,b3];apply K
  refine aG (by kernel_rfl) fun _ K=>?_;simp(disch:=omega) only[kd,aa,yJ,hget,cQ,hs];apply K
  refine bI (aG (by kernel_rfl) fun _ K=>?_);simp(disch:=omega) only[kd,aa,Int.reduceLE,am,b4];apply K;refine ic rfl ?_;refine aG (by kernel_rfl) fun _ K=>?_;simp only[kd,aa,e7];apply K
  refine nN ⟨.inr rfl,⟨(.one (.sl 0 0 off (n+3))::jk::jk::jk::.raw (.int .u32 ((natV u/natV v:Nat):Int))::j16 (j16 (j16 (j16 (j16 (j16 (j16 (j16 (j16 (j16 (j4 (jk::jk::[])))))))))))),Hm [(0,[⟨86,1,lc fU (pre++(bf (n+3) (natV u%natV v)++post))⟩])]⟩,aC ⟨rfl,trivial⟩ (by simp[wk]),rfl,kL _,?_⟩;simp(disch:=omega) only[kd,Tryd.results71]
 rw[if_pos (by omega)]at b2;obtain⟨t,ht⟩: ∃t,t=u2+4294967296-(m.c+m.b):=⟨_,rfl⟩;have ht4:t<4294967296:=by omega
 rw[show(u2+8589934592-(m.c+m.b))%4294967296=t by omega]at b1;have hs:=hset t;have lu':Lmb (m.us++[t]):=jI m.lmb ht4;have nu':(m.us++[t]).length=n+3:=by rw[List.length_append,hml,hie];rfl
 have hleft:=fun a hai=>H.left m hie hg2 (by omega) ht a hai
 have htop:(m.us++[t])[n+2]?=some t:=by rw[List.getElem?_append_right (by omega),hml,hie,Nat.sub_self];rfl
 clear hset hse hno ht;generalize hRR:pre++((m.us++u.drop m.i)++post)=RR at*
 refine aG (by kernel_rfl) fun _ K=>?_;simp(disch:=omega) only[kd,bN];apply K
 refine rI rfl ?_;show dF _ _ _ _ _;refine aG (by kernel_rfl) fun _ K=>?_;simp(disch:=omega) only[kd,aa,hget,dj];apply K
 refine aG (by kernel_rfl) fun _ K=>?_;simp(disch:=omega) only[kd,aa,b1,hget,cQ,hs];apply K
 refine bI (aG (by kernel_rfl) fun _ K=>?_);simp(disch:=omega) only[kd,aa,Int.reduceLE,am,b2];apply K;refine fJ rfl (d7 ?_);show dF _ _ _ _ _;refine aG (by kernel_rfl) fun _ K=>?_;simp only[kd];apply K
 refine bI (aG (by kernel_rfl) fun _ K=>?_);simp only[kd];apply K;refine eH (G:=DS (m.us++[t]) v) (fun a=>⟨(.one (.sl 0 0 off (n+3))::bN v::jk::jk::jk::.raw (.int .i64 ((n+2:Nat):Int))::jk::.raw (.int .u64 (g:Int))::jk::.raw (.int .u64 (a.c:Int))::j16 (j16 (j16 (j16 (j16 (j16 (j16 (j4 (j4 (j4 (jk::.raw (.int .i64 ((n+2:Nat):Int))::rN a.i::j16 (j16 (jk::jk::[]))))))))))))),Hm [(0,[⟨86,1,lc fU (pre++((a.us++(m.us++[t]).drop a.i)++post))⟩])]⟩) (fun a=>n+2-a.i) (DS.start _ _) ?_ ?_
 ·refine aC ⟨?_,trivial⟩ ?_
  ·simp[Hm,DS.start,aO]
  simp[wk,DS.start]
 intro a;have hai:=a.hi;have hac:=a.hc;have hal:=a.len;generalize m.us++[t]=U' at*
 have hsl2:=sV (u:=U') hal (by omega);have hrl2:(pre++((a.us++U'.drop a.i)++post)).length=off+(n+3)+post.length:=by simp only[List.length_append]at hsl2⊢;omega
 by_cases hlt2:a.i<n+2
 ·obtain⟨x,hx⟩:=getElem?_of_lt (l:=v) (k:=a.i) (by omega);obtain⟨y,hy⟩:=getElem?_of_lt (l:=U') (k:=a.i) (by omega);have hx':=cd H.lv hx;have hy':=cd lu' hy;have hget2:=jg (post:=post) hp (sT hal hy);have hset2:=n6 (post:=post) ((a.c+(y+x))%4294967296) hp (show a.i<(a.us++U'.drop a.i).length by omega);rw[n9 _ hal (by omega)]at hset2;obtain⟨a',q1,q2,q3⟩:=D6 a hx hy H.lv lu';have e4:(a.c:Int)+((y:Int)+(x:Int))=((a.c+(y+x):Nat):Int):=by omega
  have e6:=yH (a.c+(y+x));have e7:=Gq (a.c+(y+x));generalize(a.c+(y+x))%4294967296=nl at*
  generalize(a.c+(y+x))/4294967296=nc at*
  generalize hR2:pre++((a.us++U'.drop a.i)++post)=R2 at*
  refine aG (by kernel_rfl) fun _ K=>?_;simp(disch:=omega) only[kd,bN];apply K
  refine rJ rfl ?_;refine bI (dC ?_);refine aG (by kernel_rfl) fun _ K=>?_;simp only[kd];apply K
  refine ef bE (by kernel_rfl) (by kernel_rfl) fun _ K=>?_;simp(disch:=omega) only[kd,aa,hget2,dj,hx,e4];apply K
  refine aG (by kernel_rfl) fun _ K=>?_;simp(disch:=omega) only[kd,aa,e6,hget2,cQ,hset2];apply K
  refine ch (by kernel_rfl) fun _ K=>?_;simp only[kd,aa,Int.reduceLE,am,e7];apply K
  show dF _ _ _ _ _;refine ch (by kernel_rfl) fun _ K=>?_;simp(disch:=omega) only[kd,aS];apply K
  refine⟨a',by omega,aC ⟨?_,trivial⟩ ?_⟩
  ·rw[q1,q2];rfl
  simp[wk,q1,q3]
 have hae:a.i=n+2:=by omega
 obtain⟨q1,q2⟩:=hleft a hae;have hget2:(pre++((a.us++U'.drop a.i)++post))[off+(n+2)]?=some t:=by
  have:=jg (post:=post) hp (sT hal (show U'[a.i]?=some t by rw[hae];exact htop));rwa[hae]at this⊢
 have hset2:=n6 (post:=post) ((t+a.c)%4294967296) hp (show a.i<(a.us++U'.drop a.i).length by omega);rw[n9 _ hal (by omega),List.drop_eq_nil_iff.2 (show U'.length<=a.i+1 by omega),List.append_nil,q2,hae]at hset2;have e4:IntKind.u32.wrap ((t:Int)+(a.c:Int))=(((t+a.c)%4294967296:Nat):Int):=by rw[<- yH];congr 1<;>omega
 have e5:(g:Int)-1=((natV u/natV v:Nat):Int):=by rw[q1];simp
 have e6:IntKind.u32.wrap ((natV u/natV v:Nat):Int)=((natV u/natV v:Nat):Int):=by rw[yH];congr 1;exact Nat.mod_eq_of_lt hqlt
 have e8:IntKind.u64.wrap ((natV u/natV v:Nat):Int)=((natV u/natV v:Nat):Int):=by
  generalize natV u/natV v=qq at*
  rw[IntKind.wrap_u64];omega
 have hRe:pre++((a.us++U'.drop a.i)++post)=pre++((a.us++U'.drop (n+2))++post):=by rw[hae]
 generalize(t+a.c)%4294967296=nl at*
 rw[<- hRe]at hset2;generalize hR2:pre++((a.us++U'.drop a.i)++post)=R2 at*
 refine aG (by kernel_rfl) fun _ K=>?_;simp(disch:=omega) only[kd,bN];apply K
 refine rI rfl ?_;show dF _ _ _ _ _;refine aG (by kernel_rfl) fun _ K=>?_;simp(disch:=omega) only[kd,aa,hget2,yJ,e4,cQ,hset2];apply K
 refine aG (by kernel_rfl) fun _ K=>?_;simp only[kd,aa,e5,e8,e6];apply K
 refine nN ⟨.inr rfl,⟨(.one (.sl 0 0 off (n+3))::jk::jk::jk::.raw (.int .u32 ((natV u/natV v:Nat):Int))::j16 (j16 (j16 (j16 (j16 (j16 (j16 (j16 (j16 (j16 (j4 (jk::jk::[])))))))))))),Hm [(0,[⟨86,1,lc fU (pre++(bf (n+3) (natV u%natV v)++post))⟩])]⟩,aC ⟨rfl,trivial⟩ (by simp[wk]),rfl,kL _,?_⟩;simp(disch:=omega) only[kd,Tryd.results71]
theorem IP (x:Nat) (h:x<4294967296):CallC Tryd.prog 69 [.raw (.int .u32 (x:Int))] ⟨[],.raw (.int .i64 (lz x:Int))⟩:=by
 refine fc (by kernel_rfl) fun X w vs hX hvs ha=>?_
 obtain⟨v0,e0,r0⟩:=jx ha (j:=0) rfl;obtain⟨rfl,_⟩:=bF (ρ:=fun _ _=>none) (H:=fun _=>[]) r0;obtain rfl:vs= #[.int .u32 (x:Int)]:=by
  apply Array.ext_getElem?;intro j
  match j with
  |0=>exact e0
  |j+1=>rw[Array.getElem?_eq_none (by simp at hvs;omega)];rfl
 have hb:=Lib.bitLen_le x 32 (by omega) (by simpa using h);have e:(32-(Lib.bitLen (x:Int).toNat:Int))=(lz x:Int):=by rw[Int.toNat_natCast];unfold lz;omega
 have:=Any.bits_LeadingZeros32 Tryd.lays133 (x:Int) w (by omega) (by omega);rw[e]at this;exact this.mono fun e w' ⟨h1,h2⟩=>⟨_,h1,fun ρ H Y=>cu rfl,by rw[h2];exact Ext.refl _⟩
theorem y5 {P:Program} {f:FuncId} {args:List TV} {l:List Nat} (hl:0<l.length) (hc:callable P f=true) (h: ∀(X:Nat->Prop) (w:World) (vs:Array Value),(∀b,X b->b<w.heap.size)->vs.size=args.length->
  (∀(j:Nat) t,args[j]?=some t-> ∃v:Value,vs[j]?=some v/\t.rel (fun _ _=>none) (fun _=>[]) X w v)->Calls P f vs w fun e w'=> ∃v,e= .returned v/\w'.ownsRow w.heap.size 86 1 v l.length ((l.map fun n:Nat=>(n:Int)).map (Value.int .u32))/\Ext w w'):CallC P f args ⟨[⟨86,1,lc fU l⟩],.one (.sl 0 0 0 l.length)⟩:=
 ⟨hc,fun X w vs hX hvs ha=>(h X w vs hX hvs ha).mono fun e w' ⟨v,h1,⟨_,h2⟩,h3⟩=>by
  rcases h2 with⟨_,hn⟩|⟨g,cap,cur,hv,hg,hh,hnc,hm2,hs,ht⟩
  ·omega
  have hr:rho1 g cap 0 0=some (g,cap):=by simp[rho1]
  have hcell: ∀(i:Nat) z,l[i]?=some z->cur[i]?=some (.int .u32 (z:Int)):=fun i z hz=>by
   have h3:((l.map fun n:Nat=>(n:Int)).map (Value.int .u32))[i]?=some (.int .u32 (z:Int)):=by rw[List.getElem?_map,List.getElem?_map,hz];rfl
   rw[<- ht,List.getElem?_take]at h3;split at h3
   ·simpa using h3
   cases h3
  refine⟨v,h1,rho1 g cap,⟨tV h3,fun a r o ho=>?_,fun a r a' r' o o' b c c' ho ho' _ _=>?_,fun a r o b c ho hb=>?_,fun b hb=>Nat.lt_of_lt_of_le (hX b hb) h3.size,fun a r o ho=>?_⟩,?_⟩
  ·obtain⟨rfl,rfl,rfl⟩:=nH ho;refine⟨fun e he=>?_,Nat.zero_lt_one,?_⟩
   ·obtain⟨z,_,rfl⟩:=List.mem_map.1 he;rfl
   rw[hr];refine⟨cur,hh,hs,by rw[wG];exact hnc,hm2,fun i e j x he hx=>?_⟩;simp only at he;rw[wF]at he;obtain⟨z,hz,rfl⟩:=Option.map_eq_some_iff.1 he;cases j with
   |succ j=>simp[fU]at hx
   |zero=>
    simp[fU]at hx;subst hx;exact⟨.int .u32 (z:Int),by rw[Nat.mul_one,Nat.add_zero];exact hcell i z hz,rfl,bS.raw _ rfl⟩
  ·obtain⟨rfl,rfl,_⟩:=nH ho;obtain⟨rfl,rfl,_⟩:=nH ho';exact⟨rfl,rfl⟩
  ·obtain⟨rfl,rfl,_⟩:=nH ho;rw[hr]at hb;injection hb with hb
   injection hb with hb _
   subst hb;exact⟨.inl hg,fun hX'=>absurd (hX _ hX') (by omega)⟩
  ·obtain⟨rfl,rfl,rfl⟩:=nH ho;exact cf (de _ _)
  exact⟨_,rfl,by simp[wG],.inr ⟨g,cap,cap,hr,by rw[hv];simp,hnc,fun _=>rfl⟩⟩⟩
theorem zp (l:List Nat) (h0:0<l.length) (hl:l.length<=1073741824):CallC Tryd.prog 52 [bN l] ⟨[⟨86,1,lc fU l⟩],.one (.sl 0 0 0 l.length)⟩:=by
 refine y5 h0 (by kernel_rfl) fun X w vs hX hvs ha=>?_
 obtain⟨v0,e0,r0⟩:=jx ha (j:=0) rfl;obtain⟨A,c,rfl,hc,hR⟩:=yp r0;obtain rfl:vs= #[.slice A l.length c]:=by
  apply Array.ext_getElem?;intro j
  match j with
  |0=>exact e0
  |j+1=>rw[Array.getElem?_eq_none (by simp at hvs;omega)];rfl
 have hlen:(l.map fun n:Nat=>(n:Int)).length=l.length:=List.length_map _;have:=oI A c (l.map fun n:Nat=>(n:Int)) w hR (by rw[hlen];omega);rw[hlen]at this;exact this
theorem zr (a b:Nat) (hb:0<b) (la:(aP a).length<=268435456) (lb:(aP b).length<=268435456):CallC Tryd.prog 61 [bN (aP a),bN (aP b)] ⟨[],zc a b⟩:=by
 have hc:=kN (aP a) (aP b) (be _) (be _) (cE _) (cE _) (by omega) (by omega);rw[aQ,aQ]at hc;by_cases hlt:a<b
 ·rw[rZ hlt]at hc;have hcl:=tX (aP a) (by omega);unfold zc;rw[Nat.div_eq_of_lt hlt,Nat.mod_eq_of_lt hlt,cq];refine aN Tryd.func61 rfl (by kernel_rfl) ?_;rw[Tryd.ntmps61];refine aB fun _ K=>?_;simp only[kd,bN,aa,ae];apply K
  refine aD (aH ?_);refine aK [⟨2,_,_,_,hc⟩] [] fun _ K=>?_;simp(disch:=omega) only[kd,bN,aa];apply K
  refine bs rfl ?_;refine aK [⟨1,_,_,_,hcl⟩] [] fun _ K=>?_;simp only[kd,bN,aa];apply K
  refine aM ⟨.inr rfl,HU 4 rfl rfl ?_ rfl⟩;simp(disch:=omega) only[kd,Tryd.results61]
 obtain⟨c,hcv,hc0⟩: ∃c,c=gg a b/\0<=c:=⟨_,rfl,El (by omega)⟩;rw[<- hcv]at hc;clear hcv;by_cases hs:(aP a).length<=2
 ·have sb:(aP b).length<=2:=Nat.le_trans (su (show b<=a by omega)) hs;have ua:=ny hs;have ub:=ny sb;have h1:=nQ (aP a) (be _) hs;have h2:=nQ (aP b) (be _) sb;rw[aQ]at h1 h2;have hq:a/b<=a:=Nat.div_le_self _ _;have hr:a%b<b:=Nat.mod_lt _ hb;have h3:=fA (a/b) (by omega);have h4:=fA (a%b) (by omega);have hb0:(b:Int)≠0:=by omega
  have e1:IntKind.u64.wrap (Int.tdiv (a:Int) (b:Int))=((a/b:Nat):Int):=by
   rw[Int.tdiv_eq_ediv_of_nonneg (by omega),<- Int.natCast_ediv];generalize a/b=q at*;rw[IntKind.wrap_u64];omega
  have e2:Int.tmod (a:Int) (b:Int)=((a%b:Nat):Int):=by
   rw[Int.tmod_eq_emod_of_nonneg (by omega),<- Int.natCast_emod]
  unfold zc;generalize a/b=q at*
  generalize a%b=r at*
  refine aN Tryd.func61 rfl (by kernel_rfl) ?_;rw[Tryd.ntmps61];refine aB fun _ K=>?_;simp only[kd,bN,aa,ae];apply K
  refine aD (aH ?_);refine aK [⟨2,_,_,_,hc⟩] [] fun _ K=>?_;simp(disch:=omega) only[kd,bN,aa];apply K
  refine a6 rfl ?_;refine aB fun _ K=>?_;simp(disch:=omega) only[kd,aa];apply K
  refine bs rfl ?_;refine aK [⟨1,_,_,_,h1⟩,⟨3,_,_,_,h2⟩] [] fun _ K=>?_;simp only[kd,bN,aa,af];apply K
  refine dn bE [⟨3,_,_,_,h3⟩,⟨7,_,_,_,h4⟩] [] (by kernel_rfl) fun _ K=>?_;simp only[kd,bN,aa,ne_eq,hb0,not_false_eq_true,e1,e2,af];apply K
  (refine aM ⟨.inr rfl,aI rfl ?_ rfl⟩;simp(disch:=omega) only[kd,Tryd.results61])
 by_cases h1:(aP b).length=1
 ·obtain⟨g0,b32⟩:=zz h1;have hcl:=zp (aP a) (by omega) (by omega);have hw:=nI (aP a) b (be _) hb b32 (by omega) (by omega);rw[aQ]at hw;have hq:a/b<4294967296^(aP a).length:=aA (Nat.div_le_self _ _) (ut a);have hr:a%b<b:=Nat.mod_lt _ hb;have ht:=da (bf (aP a).length (a/b)) (by rw[a7];omega);rw[m6 hq]at ht;have hf:=fA (a%b) (by omega);have hpl:=a7 (aP a).length (a/b);unfold zc;generalize a%b=r at*
  generalize bf (aP a).length (a/b)=R at*
  generalize a/b=q at*
  have e1:IntKind.u64.wrap (r:Int)=(r:Int):=by rw[IntKind.wrap_u64];omega
  refine aN Tryd.func61 rfl (by kernel_rfl) ?_;rw[Tryd.ntmps61];refine aB fun _ K=>?_;simp only[kd,bN,aa,ae];apply K
  refine aD (aH ?_);refine aK [⟨2,_,_,_,hc⟩] [] fun _ K=>?_;simp(disch:=omega) only[kd,bN,aa];apply K
  refine a6 rfl ?_;refine aB fun _ K=>?_;simp(disch:=omega) only[kd,aa];apply K
  refine a6 rfl ?_;refine aB fun _ K=>?_;simp(disch:=omega) only[kd,aa];apply K
  refine bs rfl ?_;refine aK [⟨1,_,_,_,hcl⟩] [] fun _ K=>?_;simp only[kd,bN,aa];apply K
  (refine ou 4 hw 41 0 [] [] (by simp[wk]) (by omega) (kU rfl) (de _ _) (by simp[wk]) (by decide) fun K hK=>?_;simp(disch:=omega) only[kd,aa,am,g0];apply hK;refine⟨⟨rfl,rfl⟩,by simp,?_⟩;intro K hK;simp only[kd,aa,G0,cwD];apply hK)
  refine bH.weak ((dH 41 (fz rfl)).trans (aC (tm:=(j4 (bN R::jk::jk::jk::.raw (.int .u32 (r:Int))::j16 (j16 (j16 (j16 (j16 (j4 (j4 (j4 (jk::jk::jk::[]))))))))))) (l:=[]) trivial (by simp[wk,fV,eo,aO,Hm,fi,gm,List.take_of_length_le,hpl]))) ?_;refine aK [⟨1,_,_,_,ht⟩,⟨4,_,_,_,hf⟩] [] fun _ K=>?_;simp only[kd,bN,aa,e1,af];apply K
  (refine aM ⟨.inr rfl,aI rfl ?_ rfl⟩;simp(disch:=omega) only[kd,Tryd.results61])
 obtain⟨n,hn⟩: ∃n,(aP b).length=n+2:=⟨(aP b).length-2,by have:=gn (n:=b);omega⟩;obtain⟨m,hm⟩: ∃m,(aP a).length=n+2+m:=⟨(aP a).length-(n+2),by have:=su (show b<=a by omega);omega⟩;obtain⟨x,hx,hx0,hx32,hbl⟩:=vu (n:=n+1) hn;have hz:=IP x hx32;obtain⟨z1,z2,z3⟩:=EO hx0 hx32;obtain⟨s,hsz⟩: ∃s,s=lz x:=⟨_,rfl⟩;rw[<- hsz]at hz z1 z2 z3;clear hsz;obtain⟨V1,V2⟩:=FG hn hx ⟨z2,z3⟩ z1;have hp2:=Nat.two_pow_pos s;have hV:0<b*2^s:=Nat.mul_pos hb hp2;have mq:=lI (aP b) s (be _) z1 (by omega);have sl2:=lI (aP a) s (be _) z1 (by omega);rw[aQ,hn]at mq;rw[aQ,hm]at sl2;have ha':=ut a;rw[hm]at ha';obtain⟨st1,st2⟩:=Ae (s:=s) ha' hbl;have hA:a*2^s<b*2^s*4294967296^(m+1):=by
  have h2:4294967296^(n+2+m)<=b*4294967296^(m+1):=by
   have e:4294967296^(n+2+m)=4294967296^(n+1)*4294967296^(m+1):=by rw[<- Nat.pow_add];congr 1;omega
   rw[e];exact Nat.mul_le_mul_right _ hbl
  rw[Nat.mul_right_comm];exact Nat.mul_lt_mul_of_pos_right (Nat.lt_of_lt_of_le ha' h2) hp2
 obtain⟨en1,en2⟩:=Fl (a:=a) (b:=b) (s:=s);have e1:((n+2:Nat):Int)-1=((n+1:Nat):Int):=by omega
 have e2:((n+2+m:Nat):Int)-((n+2:Nat):Int)=(m:Int):=by omega
 have e3:(m:Int)+1=((m+1:Nat):Int):=by omega
 have tk:=z8 (x:=b*2^s) (show n+2<=n+2+1 by omega);have kdh:=fun k=>Hg (A:=a*2^s) (k:=k) V1 V2
 have hQ: ∀k,k<=m+1->iI (a*2^s) (b*2^s) k<4294967296^(m+1):=fun k hk=>HG hA hk
 have hend:a%b*2^s<4294967296^(n+2+m+1):=by
  have h3:a%b<b:=Nat.mod_lt _ hb;have h4:a%b*2^s<=b*2^s:=Nat.mul_le_mul_right _ (Nat.le_of_lt h3);have h5:4294967296^(n+2)<=4294967296^(n+2+m+1):=Nat.pow_le_pow_right (by omega) (by omega);omega
 have hmod:a%b<4294967296^(n+2+m+1):=aA (Nat.le_mul_of_pos_right _ hp2) hend;have hrw:=fun k (hk:k<=m)=>CI (A:=a*2^s) (V:=b*2^s) (k:=k) (nb:=n+2) (na:=n+2+m) hV (Nat.le_of_lt V1) (by omega)
 have hrr:=fun k (hk:k<=m)=>Fm (A:=a*2^s) (V:=b*2^s) (k:=k) (nb:=n+2) (na:=n+2+m) (by omega)
 have hqs:=fun k (hk:k<=m)=>Ff (A:=a*2^s) (V:=b*2^s) (k:=k) (m:=m+1) hV (by omega) (hQ _ (by omega))
 have hdiv:a/b<4294967296^(m+1):=by have:=hQ 0 (by omega);rwa[en2]at this
 have sr:=qm (bf (n+2+m+1) (a%b*2^s)) s (jH _ _) z1 (by rw[a7];omega) (by rw[a7];omega);rw[dU hend,a7,Nat.mul_div_cancel _ hp2]at sr;have ht1:=da (bf (m+1) (a/b)) (by rw[a7];omega);rw[m6 hdiv]at ht1;have ht2:=da (bf (n+2+m+1) (a%b)) (by rw[a7];omega);rw[m6 hmod]at ht2;have hlV:=a7 (n+2) (b*2^s);refine aN Tryd.func61 rfl (by kernel_rfl) ?_;rw[Tryd.ntmps61];refine aB fun _ K=>?_;simp only[kd,bN,aa,ae];apply K
 refine aD (rH (S:=⟨(bN (aP a)::bN (aP b)::j16 (j16 (j16 (j16 (j16 (j16 (j4 (jk::jk::[])))))))),Hm []⟩) (aH ?_) ?_)
 ·refine aK [⟨2,_,_,_,hc⟩] [] fun _ K=>?_;simp(disch:=omega) only[kd,bN,aa];apply K
  refine a6 rfl ?_;refine aB fun _ K=>?_;simp(disch:=omega) only[kd,aa];apply K
  refine a6 rfl ?_;refine aB fun _ K=>?_;simp(disch:=omega) only[kd,aa];apply K
  refine d4 rfl (fun h=>by simp at h<;>omega) (fun _=>aT (aC trivial ?_));simp[wk]
 refine aK [⟨6,_,_,_,hz⟩] [] fun _ K=>?_;simp(disch:=omega) only[kd,aa,bN,hn,e1,aS,hx];apply K
 refine aK [⟨2,_,_,_,mq⟩] [] fun _ K=>?_;simp(disch:=omega) only[kd,bN,aa,hn,Nat.reduceLeDiff,reduceCtorEq];apply K
 refine bH.weak ((dH 61 (fz rfl)).trans (aC (tm:=(bN (aP a)::bN (aP b)::j4 (jk::jk::jk::rN s::bN (bf (n+2) (b*2^s))::j16 (j16 (j16 (j16 (j16 (j4 (j4 (j4 (jk::[]))))))))))) (l:=[]) trivial (by simp[wk,fV,eo,aO,Hm,fi,gm,tk]))) ?_;generalize hvv:bf (n+2) (b*2^s)=vv at*
 refine aK [⟨2,_,_,_,sl2⟩] [] fun _ K=>?_;simp only[kd,bN,aa];apply K
 refine aB fun _ K=>?_;simp(disch:=omega) only[kd,aa,hm,hn,e2,aS,e3,lK,ab];apply K
 refine aD (aB fun _ K=>?_);simp(disch:=omega) only[kd,aa,hm,hn,e2,aS];apply K;generalize hAe:a*2^s=A at*
 generalize hVe:b*2^s=V at*
 refine bx (G:=rE (m+1)) (fun g=>⟨(jk::bN (aP b)::jk::jk::.one (.sl 74 0 0 (m+1))::j4 (.raw (.int .i64 (s:Int))::bN vv::.one (.sl 67 0 0 (n+2+m+1))::.raw (.int .i64 ((g.i:Int)-1))::j16 (j16 (j16 (j16 (j16 (j4 (j4 (jk::jk::jk::[]))))))))),Hm [(67,[⟨86,1,lc fU (bf (n+2+m+1) (dr A V g.i))⟩]),(74,[⟨86,1,lc fU (bf (m+1) (iI A V g.i))⟩])]⟩) (fun g=>g.i) ⟨m+1,by omega⟩ ?_ ?_
 ·refine aC ⟨?_,?_,trivial⟩ ?_
  ·simp[st1,aO,Hm]
  ·simp[st2,aO,Hm,rj]
  simp[wk]
 rintro⟨i,hi⟩;simp only;by_cases h0:0<i
 ·obtain⟨k,rfl⟩: ∃k,i=k+1:=⟨i-1,by omega⟩;have hk:k<=m:=by omega
  have ek:((k+1:Nat):Int)-1=(k:Int):=by omega
  have ek2:(k:Int)+((n+2:Nat):Int)+1=((k+n+3:Nat):Int):=by omega
  have ek3:k+n+3-k=n+3:=by omega
  obtain⟨v1,v2,u2,u1,u0,K,nU,nV⟩:=kdh k;have w1:=hrw k hk;have w2:=hrr k hk;rw[show n+2+1=n+3 from rfl]at w1 w2;have w3:=hqs k hk;have gq:=dO (x:=iI A V (k+1)) (show k<m+1 by omega);have hds:=ql (bf k (dr A V (k+1))) _ (bf (n+2+m-(k+(n+2))) (dr A V (k+1)/4294967296^(k+(n+2)+1))) _ k n v1 v2 u2 u1 u0 (a7 _ _) K (by rw[<- w2,a7];omega);rw[nU,nV]at hds;rw[w1,<- w2]at hds;have qd:=lY (A:=A) (k:=k) hV;have l1:=a7 (m+1) (iI A V (k+1));have l2:=a7 (n+2+m+1) (dr A V (k+1));obtain⟨R',hR'⟩: ∃R',R'=bf (n+2+m+1) (dr A V k):=⟨_,rfl⟩;obtain⟨Q',hQ'⟩: ∃Q',Q'=bf (m+1) (iI A V k):=⟨_,rfl⟩;rw[<- hR']at hds;rw[<- hQ']at w3;clear w1 w2 K nU nV;generalize dr A V (k+1)/4294967296^k/V=d at*
  generalize iI A V (k+1)/4294967296^k%4294967296=od at*
  generalize bf (m+1) (iI A V (k+1))=Q0 at*
  generalize bf (n+2+m+1) (dr A V (k+1))=R0 at*
  refine aD (aB fun _ K=>?_);simp(disch:=omega) only[kd,bN,ek];apply K;refine bs rfl (aT ?_);refine aD (aH ?_)
  ((refine vJ 11 hds 67 0 [] [] (by simp[wk]) (by omega) (kU rfl) (de _ _) (by simp[wk]) (by decide) fun K hK=>?_);simp(disch:=omega) only[kd,aa,hn,aS,ek2,ab,Nat.reduceLeDiff,ek3];apply hK;refine⟨⟨rfl,rfl⟩,by simp,?_⟩;intro K hK;simp(disch:=omega) only[kd,aa,G0,cwD,ab,gq,cQ,w3];apply hK)
  show bH _ _ _ _;refine aR fun _ K=>?_;simp(disch:=omega) only[kd,aa,aS];apply K
  refine⟨⟨k,by omega⟩,by simp only;omega,aC ⟨?_,?_,trivial⟩ ?_⟩
  ·simp[aO,Hm,hR']
  ·simp[aO,Hm,hQ']
  simp[wk]
 have hi0:i=0:=by omega
 subst hi0;rw[en1,en2];generalize bf (n+2+m+1) (a%b*2^s)=R0 at*
 unfold zc;have l1:=a7 (m+1) (a/b);have l2:=a7 (n+2+m+1) (a%b);generalize bf (n+2+m+1) (a%b)=R1 at*
 generalize bf (m+1) (a/b)=Q1 at*
 generalize a/b=q at*
 generalize a%b=r at*
 refine aD (aB fun _ K=>?_);simp(disch:=omega) only[kd,bN];apply K;refine a6 rfl (dx ?_);show bH _ _ _ _
 (refine ou 2 sr 67 0 [] [] (by simp[wk]) (by omega) (kU rfl) (de _ _) (by simp[wk]) (by decide) fun K hK=>?_;simp only[kd];apply hK;refine⟨⟨rfl,rfl⟩,by simp,?_⟩;intro K hK;simp only[kd,aa,G0,cwD,ab];apply hK)
 refine bH.weak ((dH 67 (fz rfl)).trans ((dH 74 (fz rfl)).trans (aC (tm:=(j4 (bN Q1::j4 (jk::jk::bN R1::j16 (j16 (j16 (j16 (j16 (j4 (j4 (j4 ([])))))))))))) (l:=[]) trivial (by simp[wk,fV,eo,aO,Hm,fi,gm,List.take_of_length_le,l1,l2])))) ?_;refine aK [⟨1,_,_,_,ht1⟩,⟨3,_,_,_,ht2⟩] [] fun _ K=>?_;simp only[kd,bN,aa,af];apply K
 (refine aM ⟨.inr rfl,aI rfl ?_ rfl⟩;simp(disch:=omega) only[kd,Tryd.results61])
theorem G8 {a b:Int} (hb:b≠0) (ha:0<=a):a/b=fN (decide (b<0)) (a.natAbs/b.natAbs)/\a%b=fN false (a.natAbs%b.natAbs):=by
 have e1:tr a b=fN false (a.natAbs%b.natAbs):=by unfold tr;rw[decide_eq_false (by omega)]
 have e2:tq a b=fN (decide (b<0)) (a.natAbs/b.natAbs):=by unfold tq;rw[decide_eq_false (show ¬a<0 by omega)];by_cases h:b<0<;>simp[h]
 rw[<- e1,<- e2];exact Bz hb (by rw[e1];unfold fN;simp;omega)
theorem Eu {a b:Int} (hb:b≠0) (ha:a<0) (h:a.natAbs%b.natAbs=0):a/b=fN (!decide (b<0)) (a.natAbs/b.natAbs)/\a%b=fN false (a.natAbs%b.natAbs):=by
 have e1:tr a b=fN false (a.natAbs%b.natAbs):=by unfold tr;rw[h];unfold fN;simp
 have e2:tq a b=fN (!decide (b<0)) (a.natAbs/b.natAbs):=by unfold tq;rw[decide_eq_true ha];by_cases h:b<0<;>simp[h]
 rw[<- e1,<- e2];exact Bz hb (by rw[e1,h];unfold fN;simp)
theorem G7 {a b:Int} (hb:b≠0) (ha:a<0) (h:a.natAbs%b.natAbs≠0):a/b=fN (!decide (b<0)) (a.natAbs/b.natAbs+1)/\a%b=fN false (b.natAbs-a.natAbs%b.natAbs):=by
 have e1:tr a b= -((a.natAbs%b.natAbs:Nat):Int):=by unfold tr;rw[decide_eq_true ha];rfl
 have hlt:a.natAbs%b.natAbs<b.natAbs:=Nat.mod_lt _ (by omega);by_cases hbn:b<0
 ·obtain⟨p1,p2⟩:=Es (a:=a) hbn (by rw[e1];omega);have e2:tq a b=((a.natAbs/b.natAbs:Nat):Int):=by unfold tq;rw[decide_eq_true ha,decide_eq_true hbn];rfl
  rw[p1,p2,e1,e2,decide_eq_true hbn];generalize a.natAbs/b.natAbs=q at*
  generalize a.natAbs%b.natAbs=r at*
  unfold fN;constructor<;>simp<;>omega
 obtain⟨p1,p2⟩:=Et (a:=a) (show 0<b by omega) (by rw[e1];omega);have e2:tq a b= -((a.natAbs/b.natAbs:Nat):Int):=by unfold tq;rw[decide_eq_true ha,decide_eq_false hbn];rfl
 rw[p1,p2,e1,e2,decide_eq_false hbn];generalize a.natAbs/b.natAbs=q at*
 generalize a.natAbs%b.natAbs=r at*
 unfold fN;constructor<;>simp<;>omega
def Bd (z:Int):Prop:=Sz z 268435456
theorem zq (a b:Int) (hb0:b≠0) (ha:Bd a) (hb:Bd b):CallC Tryd.prog 53 [tZ a,tZ b] ⟨[],.tup [(true,cZ (a/b)),(true,cZ (a%b)),(false,[.p (.raw (.bool true))])]⟩:=by
 have la:(aP a.natAbs).length<=268435456:=iD ha;have lb:(aP b.natAbs).length<=268435456:=iD hb;have t1:=da (aP a.natAbs) (by omega);have t2:=da (aP b.natAbs) (by omega);rw[kp]at t1 t2;have hl0:(aP b.natAbs).length≠0:=fun h=>hb0 (by have:=gn.1 h;omega)
 have hd:=zr a.natAbs b.natAbs (by omega) la lb;unfold zc at hd;have hr0:=gn (n:=a.natAbs%b.natAbs);have hlt:a.natAbs%b.natAbs<b.natAbs:=Nat.mod_lt _ (by omega);have lq:=su (show a.natAbs/b.natAbs<=a.natAbs from Nat.div_le_self _ _);have lr:=su (Nat.le_of_lt hlt);by_cases han:a<0
 ·by_cases hr:a.natAbs%b.natAbs=0
  ·obtain⟨p1,p2⟩:=Eu hb0 han hr;have h8:=dp (!decide (b<0)) (a.natAbs/b.natAbs);have h9:=dp false (a.natAbs%b.natAbs);rw[<- p1]at h8;rw[<- p2]at h9;have hl:(aP (a.natAbs%b.natAbs)).length=0:=hr0.2 hr;clear p1 p2;generalize a.natAbs/b.natAbs=q at*
   generalize a.natAbs%b.natAbs=r at*
   generalize a/b=Q at*
   generalize a%b=R at*
   refine aN Tryd.func53 rfl (by kernel_rfl) ?_;rw[Tryd.ntmps53];refine aB fun _ K=>?_;simp(disch:=omega) only[kd,aa,tZ,ae,ab];apply K
   refine aK [⟨2,_,_,_,t2⟩] [] fun _ K=>?_;simp(disch:=omega) only[kd,bN,aa,ab];apply K
   refine aD (aB fun _ K=>?_);simp(disch:=omega) only[kd,aa];apply K;refine a6 rfl (aT ?_);show bH _ _ _ _;refine aK [⟨2,_,_,_,t1⟩,⟨4,_,_,_,hd⟩] [] fun _ K=>?_;simp(disch:=omega) only[kd,bN,aa,ab,af];apply K
   refine aB fun _ K=>?_;simp(disch:=omega) only[kd,aa,ab];apply K
   refine aD (aH ?_);refine aD (aH ?_);refine aD (aH ?_);refine aD (aD (aB fun _ K=>?_));simp(disch:=omega) only[kd,aa,ab];apply K;refine a6 rfl (aT ?_);show bH _ _ _ _;refine aB fun _ K=>?_;simp(disch:=omega) only[kd,aa,ab];apply K
   refine bs rfl (dx ?_);show bH _ _ _ _;refine aB fun _ K=>?_;simp only[kd,aa];apply K
   refine dx ?_;show bH _ _ _ _;refine aK [⟨2,_,_,_,h8⟩,⟨4,_,_,_,h9⟩] [] fun _ K=>?_;simp(disch:=omega) only[kd,bN,tZ,aa,af,ab];apply K
   (refine aM ⟨.inr rfl,aI rfl ?_ rfl⟩;simp(disch:=omega) only[kd,Tryd.results53,ab,aa,cZ])
  obtain⟨p1,p2⟩:=G7 hb0 han hr;have h6:=qS (aP (a.natAbs/b.natAbs)) [1] (be _) (by intro x hx;simp at hx;omega) (by omega) (by simp);rw[aQ,show natV [1]=1 from rfl,show bN [1]= .one (.p (.sl [[.raw (.int .u32 1)]]))from rfl]at h6;have h7:=mH (aP b.natAbs) (aP (a.natAbs%b.natAbs)) (be _) (be _) lr (by rw[aQ,aQ];omega) (by omega);rw[aQ,aQ]at h7;have h8:=dp (!decide (b<0)) (a.natAbs/b.natAbs+1);have h9:=dp false (b.natAbs-a.natAbs%b.natAbs);rw[<- p1]at h8;rw[<- p2]at h9;have hl:(aP (a.natAbs%b.natAbs)).length≠0:=fun h=>hr (hr0.1 h)
  clear p1 p2;generalize b.natAbs-a.natAbs%b.natAbs=br at*
  generalize a.natAbs/b.natAbs=q at*
  generalize a.natAbs%b.natAbs=r at*
  generalize a/b=Q at*
  generalize a%b=R at*
  refine aN Tryd.func53 rfl (by kernel_rfl) ?_;rw[Tryd.ntmps53];refine aB fun _ K=>?_;simp(disch:=omega) only[kd,aa,tZ,ae,ab];apply K
  refine aK [⟨2,_,_,_,t2⟩] [] fun _ K=>?_;simp(disch:=omega) only[kd,bN,aa,ab];apply K
  refine aD (aB fun _ K=>?_);simp(disch:=omega) only[kd,aa];apply K;refine a6 rfl (aT ?_);show bH _ _ _ _;refine aK [⟨2,_,_,_,t1⟩,⟨4,_,_,_,hd⟩] [] fun _ K=>?_;simp(disch:=omega) only[kd,bN,aa,ab,af];apply K
  refine aB fun _ K=>?_;simp(disch:=omega) only[kd,aa,ab];apply K
  refine aD (aH ?_);refine aD (aH ?_);refine aD (aH ?_);refine aD (aD (aB fun _ K=>?_));simp(disch:=omega) only[kd,aa,ab];apply K;refine bs rfl (dx ?_);show bH _ _ _ _;refine aK [⟨2,_,_,_,h6⟩] [] fun _ K=>?_;simp(disch:=omega) only[kd,bN,aa,Nat.reduceMul,Nat.reduceLeDiff];apply K
  refine tp [⟨2,_,_,_,h7⟩] [] fun _ K=>?_;simp only[kd,bN,aa];apply K
  show bH _ _ _ _;refine aB fun _ K=>?_;simp only[kd,aa];apply K
  refine dx ?_;show bH _ _ _ _;refine aK [⟨2,_,_,_,h8⟩,⟨4,_,_,_,h9⟩] [] fun _ K=>?_;simp(disch:=omega) only[kd,bN,tZ,aa,af,ab];apply K
  (refine aM ⟨.inr rfl,aI rfl ?_ rfl⟩;simp(disch:=omega) only[kd,Tryd.results53,ab,aa,cZ])
 obtain⟨p1,p2⟩:=G8 hb0 (show 0<=a by omega);have h8:=dp (decide (b<0)) (a.natAbs/b.natAbs);have h9:=dp false (a.natAbs%b.natAbs);rw[<- p1]at h8;rw[<- p2]at h9;clear p1 p2;generalize a.natAbs/b.natAbs=q at*
 generalize a.natAbs%b.natAbs=r at*
 generalize a/b=Q at*
 generalize a%b=R at*
 refine aN Tryd.func53 rfl (by kernel_rfl) ?_;rw[Tryd.ntmps53];refine aB fun _ K=>?_;simp(disch:=omega) only[kd,aa,tZ,ae,ab];apply K
 refine aK [⟨2,_,_,_,t2⟩] [] fun _ K=>?_;simp(disch:=omega) only[kd,bN,aa,ab];apply K
 refine aD (aB fun _ K=>?_);simp(disch:=omega) only[kd,aa];apply K;refine a6 rfl (aT ?_);show bH _ _ _ _;refine aK [⟨2,_,_,_,t1⟩,⟨4,_,_,_,hd⟩] [] fun _ K=>?_;simp(disch:=omega) only[kd,bN,aa,ab,af];apply K
 refine aB fun _ K=>?_;simp(disch:=omega) only[kd,aa,ab];apply K
 refine aD (aH ?_);refine aD (aH ?_);refine aD (aH ?_);refine aD (aD (aB fun _ K=>?_));simp(disch:=omega) only[kd,aa,ab];apply K;refine a6 rfl (aT ?_);show bH _ _ _ _;refine aB fun _ K=>?_;simp(disch:=omega) only[kd,aa,ab];apply K
 refine a6 rfl (aT ?_);refine dx ?_;show bH _ _ _ _;refine aK [⟨2,_,_,_,h8⟩,⟨4,_,_,_,h9⟩] [] fun _ K=>?_;simp(disch:=omega) only[kd,bN,tZ,aa,af,ab];apply K
 (refine aM ⟨.inr rfl,aI rfl ?_ rfl⟩;simp(disch:=omega) only[kd,Tryd.results53,ab,aa,cZ])
structure JG (M:List (List Int)) where
 i:Nat
 hi:i<=M.length
 ok: ∀r∈M.take i,r.length=(M.headD []).length
theorem C4 (M:List (List Int)):CallC Tryd.prog 18 [bT M] ⟨[],Is M⟩:=by
 by_cases h1:M.length<1
 ·rw[iq (fun h=>by have:=h.1;omega)];refine aN Tryd.func18 rfl (by kernel_rfl) ?_;rw[Tryd.ntmps18];refine aB fun _ K=>?_;simp only[kd,aa,bT,ae];apply K
  refine aD (aB fun _ K=>?_);simp(disch:=omega) only[kd,aa,reduceCtorEq];apply K;refine bs rfl ?_;refine aB fun _ K=>?_;simp only[kd,aa];apply K
  (refine aM ⟨.inr rfl,aI rfl ?_ rfl⟩;simp(disch:=omega) only[kd,Tryd.results18])
 by_cases h2:16<M.length
 ·rw[iq (fun h=>by have:=h.2.1;omega)];refine aN Tryd.func18 rfl (by kernel_rfl) ?_;rw[Tryd.ntmps18];refine aB fun _ K=>?_;simp only[kd,aa,bT,ae];apply K
  refine aD (aB fun _ K=>?_);simp(disch:=omega) only[kd,aa];apply K;refine bs rfl ?_;refine aB fun _ K=>?_;simp only[kd,aa];apply K
  (refine aM ⟨.inr rfl,aI rfl ?_ rfl⟩;simp(disch:=omega) only[kd,Tryd.results18])
 have h0:=lH (M:=M) (by omega);have hmem0:M.headD []∈M:=au h0;by_cases c1:(M.headD []).length<1
 ·rw[iq (fun h=>by have:=(h.2.2 _ hmem0).1;omega)];refine aN Tryd.func18 rfl (by kernel_rfl) ?_;rw[Tryd.ntmps18];refine aB fun _ K=>?_;simp only[kd,aa,bT,ae];apply K
  refine aD (aB fun _ K=>?_);simp(disch:=omega) only[kd,aa];apply K;refine a6 rfl (aT ?_);show bH _ _ _ _;refine aB fun _ K=>?_;simp(disch:=omega) only[kd,aa,am,h0,fR];apply K
  refine aD (aB fun _ K=>?_);simp(disch:=omega) only[kd,aa,reduceCtorEq];apply K;refine bs rfl ?_;refine aB fun _ K=>?_;simp only[kd,aa];apply K
  (refine aM ⟨.inr rfl,aI rfl ?_ rfl⟩;simp(disch:=omega) only[kd,Tryd.results18])
 by_cases c2:16<(M.headD []).length
 ·rw[iq (fun h=>by have:=(h.2.2 _ hmem0).2.1;omega)];refine aN Tryd.func18 rfl (by kernel_rfl) ?_;rw[Tryd.ntmps18];refine aB fun _ K=>?_;simp only[kd,aa,bT,ae];apply K
  refine aD (aB fun _ K=>?_);simp(disch:=omega) only[kd,aa];apply K;refine a6 rfl (aT ?_);show bH _ _ _ _;refine aB fun _ K=>?_;simp(disch:=omega) only[kd,aa,am,h0,fR];apply K
  refine aD (aB fun _ K=>?_);simp(disch:=omega) only[kd,aa];apply K;refine bs rfl ?_;refine aB fun _ K=>?_;simp only[kd,aa];apply K
  (refine aM ⟨.inr rfl,aI rfl ?_ rfl⟩;simp(disch:=omega) only[kd,Tryd.results18])
 refine aN Tryd.func18 rfl (by kernel_rfl) ?_;rw[Tryd.ntmps18];refine aB fun _ K=>?_;simp only[kd,aa,bT,ae];apply K
 refine aD (aB fun _ K=>?_);simp(disch:=omega) only[kd,aa];apply K;refine a6 rfl (aT ?_);show bH _ _ _ _;refine aB fun _ K=>?_;simp(disch:=omega) only[kd,aa,am,h0,fR];apply K
 refine aD (aB fun _ K=>?_);simp(disch:=omega) only[kd,aa];apply K;refine a6 rfl (aT ?_);show bH _ _ _ _;refine aD (aB fun _ K=>?_);simp only[kd,aa];apply K;refine bx (G:=JG M) (fun g=>⟨(bT M::j4 (.raw (.int .i64 ((M.headD []).length:Int))::j16 (j4 (bT M::rN M.length::rN g.i::j4 (j4 (jk::jk::jk::[])))))),Hm []⟩) (fun g=>M.length-g.i) ⟨0,by omega,fun r hr=>by simp at hr⟩ ?_ ?_
 ·refine aC trivial ?_;simp[wk]
 rintro⟨i,hi,ok⟩;simp only;by_cases hm:i<M.length
 ·obtain⟨r,hr⟩:=getElem?_of_lt hm;have hmem:r∈M:=au hr;refine aB fun _ K=>?_;simp(disch:=omega) only[kd,bT];apply K
  refine b8 rfl ?_;refine aD (aH ?_);refine aB fun _ K=>?_;simp(disch:=omega) only[kd,aa,hr,fR];apply K
  by_cases c3:r.length=(M.headD []).length
  ·refine aB fun _ K=>?_;simp(disch:=omega) only[kd,aa];apply K
   refine a6 rfl (aT ?_);show bH _ _ _ _;refine aR fun _ K=>?_;simp(disch:=omega) only[kd,aS];apply K
   refine⟨⟨i+1,by omega,fun r' hr'=>?_⟩,by simp only;omega,aC trivial ?_⟩
   ·rw[List.take_add_one,hr]at hr';rcases List.mem_append.1 hr' with h|h
    ·exact ok r' h
    have:r'=r:=by simpa using h
    subst this;exact c3
   simp[wk]
  rw[iq (fun h=>by have:=(h.2.2 r hmem).2.2;omega)];refine aB fun _ K=>?_;simp(disch:=omega) only[kd,aa];apply K
  refine bs rfl ?_;refine aB fun _ K=>?_;simp only[kd,aa];apply K
  (refine aM ⟨.inr rfl,aI rfl ?_ rfl⟩;simp(disch:=omega) only[kd,Tryd.results18])
 have hsh:AG M:=⟨by omega,by omega,fun r hr=>by
  have:=ok r (by rw[List.take_of_length_le (by omega)];exact hr);exact⟨by omega,by omega,this⟩⟩
 rw[oc hsh];refine aB fun _ K=>?_;simp(disch:=omega) only[kd,bT];apply K
 refine cn rfl ?_;show bH _ _ _ _;refine aB fun _ K=>?_;simp only[kd,aa];apply K
 (refine aM ⟨.inr rfl,aI rfl ?_ rfl⟩;simp(disch:=omega) only[kd,Tryd.results18])
theorem C5 (M:List (List Int)):CallC Tryd.prog 51 [gF M] ⟨[],Is M⟩:=by
 by_cases h1:M.length<1
 ·rw[iq (fun h=>by have:=h.1;omega)];refine aN Tryd.func51 rfl (by kernel_rfl) ?_;rw[Tryd.ntmps51];refine aB fun _ K=>?_;simp only[kd,aa,gF,ae];apply K
  refine aD (aB fun _ K=>?_);simp(disch:=omega) only[kd,aa,reduceCtorEq];apply K;refine bs rfl ?_;refine aB fun _ K=>?_;simp only[kd,aa];apply K
  (refine aM ⟨.inr rfl,aI rfl ?_ rfl⟩;simp(disch:=omega) only[kd,Tryd.results51])
 by_cases h2:16<M.length
 ·rw[iq (fun h=>by have:=h.2.1;omega)];refine aN Tryd.func51 rfl (by kernel_rfl) ?_;rw[Tryd.ntmps51];refine aB fun _ K=>?_;simp only[kd,aa,gF,ae];apply K
  refine aD (aB fun _ K=>?_);simp(disch:=omega) only[kd,aa];apply K;refine bs rfl ?_;refine aB fun _ K=>?_;simp only[kd,aa];apply K
  (refine aM ⟨.inr rfl,aI rfl ?_ rfl⟩;simp(disch:=omega) only[kd,Tryd.results51])
 have h0:=lH (M:=M) (by omega);have hmem0:M.headD []∈M:=au h0;by_cases c1:(M.headD []).length<1
 ·rw[iq (fun h=>by have:=(h.2.2 _ hmem0).1;omega)];refine aN Tryd.func51 rfl (by kernel_rfl) ?_;rw[Tryd.ntmps51];refine aB fun _ K=>?_;simp only[kd,aa,gF,ae];apply K
  refine aD (aB fun _ K=>?_);simp(disch:=omega) only[kd,aa];apply K;refine a6 rfl (aT ?_);show bH _ _ _ _;refine aB fun _ K=>?_;simp(disch:=omega) only[kd,aa,am,h0,fR];apply K
  refine aD (aB fun _ K=>?_);simp(disch:=omega) only[kd,aa,reduceCtorEq];apply K;refine bs rfl ?_;refine aB fun _ K=>?_;simp only[kd,aa];apply K
  (refine aM ⟨.inr rfl,aI rfl ?_ rfl⟩;simp(disch:=omega) only[kd,Tryd.results51])
 by_cases c2:16<(M.headD []).length
 ·rw[iq (fun h=>by have:=(h.2.2 _ hmem0).2.1;omega)];refine aN Tryd.func51 rfl (by kernel_rfl) ?_;rw[Tryd.ntmps51];refine aB fun _ K=>?_;simp only[kd,aa,gF,ae];apply K
  refine aD (aB fun _ K=>?_);simp(disch:=omega) only[kd,aa];apply K;refine a6 rfl (aT ?_);show bH _ _ _ _;refine aB fun _ K=>?_;simp(disch:=omega) only[kd,aa,am,h0,fR];apply K
  refine aD (aB fun _ K=>?_);simp(disch:=omega) only[kd,aa];apply K;refine bs rfl ?_;refine aB fun _ K=>?_;simp only[kd,aa];apply K
  (refine aM ⟨.inr rfl,aI rfl ?_ rfl⟩;simp(disch:=omega) only[kd,Tryd.results51])
 refine aN Tryd.func51 rfl (by kernel_rfl) ?_;rw[Tryd.ntmps51];refine aB fun _ K=>?_;simp only[kd,aa,gF,ae];apply K
 refine aD (aB fun _ K=>?_);simp(disch:=omega) only[kd,aa];apply K;refine a6 rfl (aT ?_);show bH _ _ _ _;refine aB fun _ K=>?_;simp(disch:=omega) only[kd,aa,am,h0,fR];apply K
 refine aD (aB fun _ K=>?_);simp(disch:=omega) only[kd,aa];apply K;refine a6 rfl (aT ?_);show bH _ _ _ _;refine aD (aB fun _ K=>?_);simp only[kd,aa];apply K;refine bx (G:=JG M) (fun g=>⟨(gF M::j4 (.raw (.int .i64 ((M.headD []).length:Int))::j16 (j4 (gF M::rN M.length::rN g.i::j4 (j4 (jk::jk::jk::[])))))),Hm []⟩) (fun g=>M.length-g.i) ⟨0,by omega,fun r hr=>by simp at hr⟩ ?_ ?_
 ·refine aC trivial ?_;simp[wk]
 rintro⟨i,hi,ok⟩;simp only;by_cases hm:i<M.length
 ·obtain⟨r,hr⟩:=getElem?_of_lt hm;have hmem:r∈M:=au hr;refine aB fun _ K=>?_;simp(disch:=omega) only[kd,gF];apply K
  refine b8 rfl ?_;refine aD (aH ?_);refine aB fun _ K=>?_;simp(disch:=omega) only[kd,aa,hr,fR];apply K
  by_cases c3:r.length=(M.headD []).length
  ·refine aB fun _ K=>?_;simp(disch:=omega) only[kd,aa];apply K
   refine a6 rfl (aT ?_);show bH _ _ _ _;refine aR fun _ K=>?_;simp(disch:=omega) only[kd,aS];apply K
   refine⟨⟨i+1,by omega,fun r' hr'=>?_⟩,by simp only;omega,aC trivial ?_⟩
   ·rw[List.take_add_one,hr]at hr';rcases List.mem_append.1 hr' with h|h
    ·exact ok r' h
    have:r'=r:=by simpa using h
    subst this;exact c3
   simp[wk]
  rw[iq (fun h=>by have:=(h.2.2 r hmem).2.2;omega)];refine aB fun _ K=>?_;simp(disch:=omega) only[kd,aa];apply K
  refine bs rfl ?_;refine aB fun _ K=>?_;simp only[kd,aa];apply K
  (refine aM ⟨.inr rfl,aI rfl ?_ rfl⟩;simp(disch:=omega) only[kd,Tryd.results51])
 have hsh:AG M:=⟨by omega,by omega,fun r hr=>by
  have:=ok r (by rw[List.take_of_length_le (by omega)];exact hr);exact⟨by omega,by omega,this⟩⟩
 rw[oc hsh];refine aB fun _ K=>?_;simp(disch:=omega) only[kd,gF];apply K
 refine cn rfl ?_;show bH _ _ _ _;refine aB fun _ K=>?_;simp only[kd,aa];apply K
 (refine aM ⟨.inr rfl,aI rfl ?_ rfl⟩;simp(disch:=omega) only[kd,Tryd.results51])
theorem Hd (a b:Int) (ha:Bg a) (hb:Bg b):CallC Tryd.prog 23 [tZ a,tZ b] ⟨[],.raw (.int .i64 (r6 a b))⟩:=by
 have h1:=nP a ha;have h2:=nP b hb;have t1:=da (aP a.natAbs) ha.len;have t2:=da (aP b.natAbs) hb.len;rw[kp]at t1 t2;have h3:=kN (aP a.natAbs) (aP b.natAbs) (be _) (be _) (cE _) (cE _) ha.len hb.len;rw[aQ,aQ]at h3;have r1:=vj a;have r2:=vj b;have r3:=vV a.natAbs b.natAbs;have r4: -1<=sg a*gg a.natAbs b.natAbs/\sg a*gg a.natAbs b.natAbs<=1:=by
  have:sg a= -1\/sg a=0\/sg a=1:=by omega
  rcases this with h|h|h<;>rw[h]<;>omega
 by_cases hs:sg a=sg b
 ·rw[Em hs];refine aN Tryd.func23 rfl (by kernel_rfl) ?_;rw[Tryd.ntmps23];refine aB fun _ K=>?_;simp(disch:=omega) only[kd,aa,tZ,ae,ab];apply K
  refine dn bE [⟨1,_,_,_,h1⟩,⟨3,_,_,_,h2⟩] [] (by kernel_rfl) fun _ K=>?_;simp only[kd,tZ,aa,ab,af];apply K
  refine aD (aH ?_);refine aB fun _ K=>?_;simp(disch:=omega) only[kd,aa];apply K
  refine a6 rfl ?_;refine aB fun _ K=>?_;simp(disch:=omega) only[kd,aa];apply K
  refine a6 rfl (aT ?_);show bH _ _ _ _;refine dn bE [⟨3,_,_,_,t1⟩,⟨6,_,_,_,t2⟩,⟨7,_,_,_,h3⟩] [] (by kernel_rfl) fun _ K=>?_;simp(disch:=omega) only[kd,bN,aa,ab,af,aS];apply K
  (refine aM ⟨.inr rfl,aI rfl ?_ rfl⟩;simp(disch:=omega) only[kd,Tryd.results23])
 rw[En hs];refine aN Tryd.func23 rfl (by kernel_rfl) ?_;rw[Tryd.ntmps23];refine aB fun _ K=>?_;simp(disch:=omega) only[kd,aa,tZ,ae,ab];apply K
 refine dn bE [⟨1,_,_,_,h1⟩,⟨3,_,_,_,h2⟩] [] (by kernel_rfl) fun _ K=>?_;simp only[kd,tZ,aa,ab,af];apply K
 refine aD (aH ?_);refine aB fun _ K=>?_;simp only[kd,aa];apply K
 by_cases hlt:sg a<sg b
 ·rw[if_pos hlt];refine d4 rfl (fun _=>?_) (fun h=>by simp at h<;>omega);refine aB fun _ K=>?_;simp(disch:=omega) only[kd];apply K
  (refine aM ⟨.inr rfl,aI rfl ?_ rfl⟩;simp(disch:=omega) only[kd,Tryd.results23])
 rw[if_neg hlt];refine d4 rfl (fun h=>by simp at h<;>omega) (fun _=>?_);refine aB fun _ K=>?_;simp(disch:=omega) only[kd,aa];apply K
 refine bs rfl ?_;refine aB fun _ K=>?_;simp only[kd];apply K
 (refine aM ⟨.inr rfl,aI rfl ?_ rfl⟩;simp(disch:=omega) only[kd,Tryd.results23])
theorem Cw (n:Nat) (f:FF) (hn1:1<=n) (hn:n<=16):CallC Tryd.prog 39 [gF (bL n n f)] ⟨[],.tup [(false,[.p (.raw (.int .i64 (n:Int)))]),(false,[.p (.raw (.int .i64 (n:Int)))]),(false,[.p (.raw (.bool true))])]⟩:=by
 have hS:=C5 (bL n n f);rw[oc (EQ f hn1 hn hn1 hn),aU,uy f hn1]at hS;refine aN Tryd.func39 rfl (by kernel_rfl) ?_;rw[Tryd.ntmps39];refine aB fun _ K=>?_;simp only[kd,aa,gF,ae];apply K
 refine aK [⟨1,_,_,_,hS⟩] [] fun _ K=>?_;simp only[kd,gF,aa];apply K
 (refine aM ⟨.inr rfl,aI rfl ?_ rfl⟩;simp(disch:=omega) only[kd,Tryd.results39])
theorem rh (n:Nat) (f:FF) (hn1:1<=n) (hn:n<=16):CallC Tryd.prog 22 [gF (bL n n f)] ⟨[],.tup [(false,[.p (.raw (.int .i64 (n:Int)))]),(false,[.p (.raw (.bool true))])]⟩:=by
 have hS:=Cw n f hn1 hn;refine aN Tryd.func22 rfl (by kernel_rfl) ?_;rw[Tryd.ntmps22];refine aB fun _ K=>?_;simp only[kd,gF,ae];apply K
 refine aK [⟨1,_,_,_,hS⟩] [] fun _ K=>?_;simp only[kd,gF,aa];apply K
 refine aB fun _ K=>?_;simp(disch:=omega) only[kd,aa];apply K
 (refine aM ⟨.inr rfl,aI rfl ?_ rfl⟩;simp(disch:=omega) only[kd,Tryd.results22])
theorem Ep (a b c d e:Int) (s:Nat) (hs:s<=67174400) (ha:Sz a s) (hb:Sz b s) (hc:Sz c s) (hd:Sz d s) (he:Sz e s) (he0:e≠0):
  CallC Tryd.prog 46 [tZ a,tZ b,tZ c,tZ d,tZ e] ⟨[],tZ ((a*d-b*c)/e)⟩:=by
 have s1:=ha.mul hd;have s2:=hb.mul hc;have s3:=s1.sub s2;have h1:=BT a d (ha.mono (by omega)) (hd.mono (by omega));have h2:=BT b c (hb.mono (by omega)) (hc.mono (by omega));have h3:=He (a*d) (b*c) (s1.mono (by omega)) (s2.mono (by omega));have h4:=zq (a*d-b*c) e he0 (s3.mono (by omega)) (he.mono (by omega));refine aN Tryd.func46 rfl (by kernel_rfl) ?_;rw[Tryd.ntmps46];refine aB fun _ K=>?_;simp(disch:=omega) only[kd,aa,tZ,ae,ab];apply K
 refine bH.weak (aC (tm:=(j4 (jk::.one (.ptr 5 0 0 0)::.one (.ptr 6 0 0 0)::.one (.ptr 7 0 0 0)::.one (.ptr 8 0 0 0)::.one (.ptr 9 0 0 0)::.one (.ptr 10 0 0 0)::j16 (jk::[])))) (l:=[(5,Ef a),(6,Ef b),(7,Ef c),(8,Ef d),(9,Ef e),(10,JU)]) ⟨rfl,rfl,rfl,rfl,rfl,rfl,trivial⟩ (by simp[wk])) ?_;refine dn bE [⟨2,_,_,_,h1⟩,⟨5,_,_,_,h2⟩,⟨6,_,_,_,h3⟩,⟨8,_,_,_,h4⟩] [] (by kernel_rfl) fun _ K=>?_;simp(disch:=omega) only[kd,tZ,cZ,aa,ab,af];apply K
 refine aB fun _ K=>?_;simp(disch:=omega) only[kd,ab,aa];apply K
 (refine aM ⟨.inr rfl,aI rfl ?_ rfl⟩;simp(disch:=omega) only[kd,Tryd.results46,ab,aa,tZ])
abbrev oH (M:List (List Int)):List PV:=[.sl (ls (fR fZ) M)]
theorem Ie {n:Nat} {f:FF} {i j:Nat} (hi:i<n) (hj:j<n) (hn:n<=16) (hf:Bg (f i j)):
  CallC Tryd.prog 43 [.raw (.int .i64 (i:Int)),.raw (.int .i64 (j:Int)),.one (.p (.ptr (oH (bL n n f))))] ⟨[],tZ (f i j)⟩:=by
 have hr:=bq n f hi;have hjr:=aX (f i) hj;have hS:=si (f i j) hf;refine aN Tryd.func43 rfl (by kernel_rfl) ?_;rw[Tryd.ntmps43];refine aB fun _ K=>?_;simp(disch:=omega) only[kd,aa,ae];apply K
 refine aK [⟨7,_,_,_,hS⟩] [] fun _ K=>?_;simp(disch:=omega) only[kd,tZ,aa,hr,fR,hjr,fZ];apply K
 (refine aM ⟨.inr rfl,aI rfl ?_ rfl⟩;simp(disch:=omega) only[kd,Tryd.results43,aa,tZ])
theorem If (b:Nat) {m:Nat} {g:FF} {last:Int} {i j:Nat} (hi:i+1<m) (hj:j+1<m) (hm:m<=16) (s:Nat) (hs:s<=67174400) (hg: ∀i j,i<m->j<m->Sz (g i j) s) (hl:Sz last s) (hl0:last≠0):
  CallT Tryd.prog b 52 45 [.raw (.int .i64 (i:Int)),.raw (.int .i64 (j:Int)),.one (.p (.ptr (oH (bL m m g)))),.raw (.pointer (some ⟨b,0,none⟩))] (fZ last)
   ⟨[],tZ ((g 0 0*g (i+1) (j+1)-g (i+1) 0*g 0 (j+1))/last)⟩ (fZ last):=by
 have r0:=bq m g (show 0<m by omega);have r1:=bq m g hi;have c00:=aX (g 0) (show 0<m by omega);have c0j:=aX (g 0) hj;have ci0:=aX (g (i+1)) (show 0<m by omega);have cij:=aX (g (i+1)) hj;have e1:((i:Int)+1).toNat=i+1:=by omega
 have e2:((j:Int)+1).toNat=j+1:=by omega
 have hC:=Ep (g 0 0) (g (i+1) 0) (g 0 (j+1)) (g (i+1) (j+1)) last s hs (hg _ _ (by omega) (by omega)) (hg _ _ hi (by omega)) (hg _ _ (by omega) hj) (hg _ _ hi hj) hl hl0;refine tO Tryd.func45 rfl (by kernel_rfl) ?_;rw[Tryd.ntmps45];refine Ba 3 900 rfl rfl ?_;refine dF.weak (aC (tm:=(.raw (.int .i64 (i:Int))::rN j::.one (.p (.ptr (oH (bL m m g))))::.one (.ptr 900 0 0 0)::j16 (j16 (jk::[])))) (l:=[(900,Ef last)]) ⟨rfl,trivial⟩ (by simp[wk,Bf,rU,ae])) ?_;refine aG (by kernel_rfl) fun _ K=>?_;simp(disch:=omega) only[kd,aa,ab];apply K
 refine jZ bE [⟨29,_,_,_,hC⟩] [] (by kernel_rfl) (by kernel_rfl) fun _ K=>?_;simp(disch:=omega) only[kd,tZ,aa,am,r0,fR,c00,fZ,aS,e1,r1,ci0,e2,c0j,cij,ab];apply K
 refine nN ⟨fZ last,rfl,rfl,.inr rfl,rfl,aI rfl ?_ rfl⟩;simp(disch:=omega) only[kd,Tryd.results45,uv,mL,ab,aa,tZ]
end Go.Proofs.YtfgeomlagfomgaaDoor
