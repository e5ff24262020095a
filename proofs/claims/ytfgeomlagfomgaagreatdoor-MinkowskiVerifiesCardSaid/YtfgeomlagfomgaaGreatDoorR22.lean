/-
  Part 23 of a proof (walks and plain facts).
-/
import Derived.Test.YtfgeomlagfomgaaGreatDoorR21
set_option linter.all false
set_option maxRecDepth 100000
set_option maxHeartbeats 64000000
open Nat renaming reduceAdd → aa
open Nat renaming le_refl → ac
open List renaming replicate → ae
open List renaming getElem?_eq_none → aq
open List renaming getElem?_eq_getElem → ar
open List renaming mem_of_getElem? → au
namespace Go.Proofs.YtfgeomlagfomgaaGreatDoor
open Go.RowKit
def PP (M:List (List Int)):Prop:=(1<=M.length/\M.length<=4)/\ ∀r∈M,RwOk M.length r
theorem tV {M:List (List Int)}:v7 M↔PP M/\PD (ent M) M.length:=⟨fun h=>⟨⟨h.1,h.2.1⟩,h.2.2⟩,fun h=>⟨h.1.1,h.1.2,h.2⟩⟩
theorem PP.entB {M:List (List Int)} (h:PP M) {i j:Nat} (hi:i<M.length) (hj:j<M.length): -1125899906842624<=ent M i j/\ent M i j<=1125899906842624:=by
 have hr:=h.2 M[i] (List.getElem_mem hi);have e:ent M i j=M[i][j]'(by rw[hr.1];exact hj):=by
  unfold ent;simp[List.getD,hi,hr.1,hj]
 rw[e];exact hr.2 _ (List.getElem_mem _)
theorem CA {f:FF} {n:Nat}:PD f n↔SymF f n/\xy f n:=
 ⟨fun h=>⟨h.1,fun k hk=>by rw[nH h.2 k hk];exact h.2 k hk⟩,fun h=>⟨h.1,fun k hk=>(uH h.2 k hk).1⟩⟩
theorem uO (M:List (List Int)) (r:Bool) (hr:r=true↔PP M):CallC Tryz.prog 37 [slI M] ⟨[],.raw (.bool r)⟩:=by
 by_cases hlen:1<=M.length/\M.length<=4
 ·refine aI Tryz.func37 rfl (by kernel_rfl) ?_;rw[Tryz.ntmps37];refine aC fun _ K=>?_;simp only[kd,slI,ae];apply K
  refine aD (aC fun _ K=>?_);simp(disch:=omega) only[kd,aa];apply K;refine aN rfl (aK ?_);show bf _ _ _ _;refine aD (aC fun _ K=>?_);simp only[kd,aa];apply K;refine aT (G:=Rh M) (fun g=>⟨(slI M::jk::.raw (.bool false)::j4 (j4 (j4 (slI M::rN M.length::rN g.i::j16 (j4 (jk::jk::[])))))),Hm []⟩) (fun g=>M.length-g.i) ⟨0,by omega,fun a ha=>by omega⟩ ?_ ?_
  ·refine aE trivial ?_;simp[wk]
  rintro⟨i,hi,ok⟩;simp only;by_cases hm:i<M.length
  ·obtain⟨q,hq⟩: ∃q,M[i]?=some q:=⟨M[i],ar hm⟩;have hqm:=xb hq;refine aC fun _ K=>?_;simp(disch:=omega) only[kd,slI];apply K
   refine bu rfl ?_;refine aD (aJ ?_);refine aC fun _ K=>?_;simp(disch:=omega) only[kd,aa,hq,fR];apply K
   by_cases hql:q.length=M.length
   ·refine aD (aC fun _ K=>?_);simp(disch:=omega) only[kd,aa,hql];apply K;refine aN rfl (aK ?_);show bf _ _ _ _;refine aC fun _ K=>?_;simp only[kd,aa,hql];apply K
    refine aT (G:=Ri q) (fun g=>⟨(slI M::jk::.raw (.bool false)::jk::.one (.p (.sl (ls fI q)))::j4 (j4 (jk::jk::slI M::rN M.length::rN i::j4 (j4 (.one (.p (.sl (ls fI q)))::rN M.length::rN g.j::j4 (j4 (jk::jk::jk::[]))))))),Hm []⟩) (fun g=>q.length-g.j) ⟨0,by omega,fun a ha=>by omega⟩ ?_ ?_
    ·refine aE trivial ?_;simp[wk]
    rintro⟨j,hj,okj⟩;simp only;by_cases hm2:j<q.length
    ·obtain⟨x,hx⟩: ∃x,q[j]?=some x:=⟨q[j],ar hm2⟩;refine aC fun _ K=>?_;simp(disch:=omega) only[kd,slI];apply K
     refine bu rfl ?_;refine aD (aJ ?_);refine aC fun _ K=>?_;simp(disch:=omega) only[kd,aa,hx];apply K
     by_cases hlo:x< -1125899906842624
     ·have hr0:r=false:=by
       cases r with
       |false=>rfl
       |true=>have:=((hr.1 rfl).2 q hqm).2 x (au hx);omega
      subst hr0;refine aC fun _ K=>?_;simp(disch:=omega) only[kd,aa,reduceCtorEq];apply K
      refine aS rfl ?_;refine aC fun _ K=>?_;simp only[kd];apply K
      (refine aH ⟨.inr rfl,aG rfl ?_ rfl⟩;simp(disch:=omega) only[kd,Tryz.results37])
     by_cases hhi:1125899906842624<x
     ·have hr0:r=false:=by
       cases r with
       |false=>rfl
       |true=>have:=((hr.1 rfl).2 q hqm).2 x (au hx);omega
      subst hr0;refine aC fun _ K=>?_;simp(disch:=omega) only[kd,aa];apply K
      refine aS rfl ?_;refine aC fun _ K=>?_;simp only[kd];apply K
      (refine aH ⟨.inr rfl,aG rfl ?_ rfl⟩;simp(disch:=omega) only[kd,Tryz.results37])
     refine aC fun _ K=>?_;simp(disch:=omega) only[kd,aa];apply K
     refine aN rfl (aK ?_);show bf _ _ _ _;refine aL fun _ K=>?_;simp(disch:=omega) only[kd,aO];apply K
     refine⟨⟨j+1,by omega,fun b hb y hy=>?_⟩,by simp only;omega,aE trivial ?_⟩
     ·by_cases e:b=j
      ·subst e;rw[hx]at hy;injection hy with hy
       omega
      exact okj b (by omega) y hy
     simp[wk]
    refine aC fun _ K=>?_;simp(disch:=omega) only[kd,slI];apply K
    refine bD rfl ?_;show bf _ _ _ _;refine aL fun _ K=>?_;simp(disch:=omega) only[kd,aO];apply K
    refine⟨⟨i+1,by omega,fun a ha q' hq'=>?_⟩,by simp only;omega,aE trivial ?_⟩
    ·by_cases e:a=i
     ·subst e;rw[hq]at hq';injection hq' with hq'
      subst hq';refine⟨hql,fun x hx=>?_⟩;obtain⟨b,hb⟩:=List.mem_iff_getElem?.1 hx;exact okj b (by have:=(List.getElem?_eq_some_iff.1 hb).1;omega) x hb
     exact ok a (by omega) q' hq'
    simp[wk]
   have hr0:r=false:=by
    cases r with
    |false=>rfl
    |true=>exact absurd ((hr.1 rfl).2 q hqm).1 hql
   subst hr0;refine aD (aC fun _ K=>?_);simp(disch:=omega) only[kd,aa];apply K;refine aS rfl ?_;refine aC fun _ K=>?_;simp only[kd];apply K
   (refine aH ⟨.inr rfl,aG rfl ?_ rfl⟩;simp(disch:=omega) only[kd,Tryz.results37])
  have hall: ∀q∈M,RwOk M.length q:=fun q hq=>by
   obtain⟨a,ha⟩:=List.mem_iff_getElem?.1 hq;exact ok a (by have:=(List.getElem?_eq_some_iff.1 ha).1;omega) q ha
  have hr1:r=true:=hr.2 ⟨hlen,hall⟩;subst hr1;refine aC fun _ K=>?_;simp(disch:=omega) only[kd,slI];apply K
  refine bD rfl ?_;show bf _ _ _ _;refine aC fun _ K=>?_;simp only[kd];apply K
  (refine aH ⟨.inr rfl,aG rfl ?_ rfl⟩;simp(disch:=omega) only[kd,Tryz.results37])
 have hr0:r=false:=by
  cases r with
  |false=>rfl
  |true=>exact absurd (hr.1 rfl).1 hlen
 subst hr0;by_cases h1:M.length<1
 ·refine aI Tryz.func37 rfl (by kernel_rfl) ?_;rw[Tryz.ntmps37];refine aC fun _ K=>?_;simp only[kd,slI,ae];apply K
  refine aD (aC fun _ K=>?_);simp(disch:=omega) only[kd,aa,reduceCtorEq];apply K;refine aS rfl ?_;refine aC fun _ K=>?_;simp only[kd];apply K
  (refine aH ⟨.inr rfl,aG rfl ?_ rfl⟩;simp(disch:=omega) only[kd,Tryz.results37])
 refine aI Tryz.func37 rfl (by kernel_rfl) ?_;rw[Tryz.ntmps37];refine aC fun _ K=>?_;simp only[kd,slI,ae];apply K
 refine aD (aC fun _ K=>?_);simp(disch:=omega) only[kd,aa];apply K;refine aS rfl ?_;refine aC fun _ K=>?_;simp only[kd];apply K
 (refine aH ⟨.inr rfl,aG rfl ?_ rfl⟩;simp(disch:=omega) only[kd,Tryz.results37])
/-! The gG of a row of small coefficients. -/
theorem Mx (n:Nat) (f:FF) (c:Nat->Int) (hn1:1<=n) (hn:n<=4) (hf: ∀i j,i<n->j<n-> -1125899906842624<=f i j/\f i j<=1125899906842624) (hc: ∀j,-1<=c j/\c j<=1):
  CallC Tryz.prog 82 [slI (mat n n f),iC (bz n c)] ⟨[],.raw (.int .i64 (nrm n f c))⟩:=by
 have hcl:=bv n c;refine aI Tryz.func82 rfl (by kernel_rfl) ?_;rw[Tryz.ntmps82];refine aC fun _ K=>?_;simp only[kd,slI,iC,aa,ae];apply K
 refine aC fun _ K=>?_;simp only[kd];apply K
 refine aD (aC fun _ K=>?_);simp only[kd,aa,hcl];apply K;refine aT (G:=jP n) (fun g=>⟨(slI (mat n n f)::iC (bz n c)::jk::jk::jk::.raw (.int .i64 (nS n f c g.i 0))::jk::jk::jk::rN n::rN g.i::j16 (j4 (j4 (j4 (jk::[]))))),Hm []⟩) (fun g=>n-g.i) ⟨0,by omega⟩ ?_ ?_
 ·refine aE trivial ?_;simp[wk,nS,cK]
 rintro⟨i,hi⟩;simp only;by_cases hm:i<n
 ·have hr:=bs n f hm;have hci:=aR c hm;refine aC fun _ K=>?_;simp(disch:=omega) only[kd,slI,iC];apply K
  refine bu rfl ?_;refine aD (aJ ?_);refine aC fun _ K=>?_;simp only[kd];apply K
  refine aC fun _ K=>?_;simp only[kd,aa,hcl];apply K
  refine aT (G:=jP n) (fun g=>⟨(slI (mat n n f)::iC (bz n c)::jk::jk::jk::.raw (.int .i64 (nS n f c i g.i))::rN i::jk::jk::rN n::rN i::jk::jk::jk::rN n::rN g.i::j16 (j4 (j4 ([])))),Hm []⟩) (fun g=>n-g.i) ⟨0,by omega⟩ ?_ ?_
  ·refine aE trivial ?_;simp[wk]
  rintro⟨j,hj⟩;simp only;by_cases hjn:j<n
  ·have hg:=aR (f i) hjn;have hcj:=aR c hjn;have b1:=hf i j hm hjn;have b2:=jL (hc i) b1;have b3:=jL (hc j) b2;have b4:=Ej hf hc hm hj;have b5:=Ej hf hc hm (j:=j+1) (by omega);have b6:=jL (hc j) (show -1<=c i/\c i<=1 from hc i);have e1:IntKind.i64.wrap (c i*c j)=c i*c j:=aO (by omega) (by omega);have e0:c i*c j*f i j=f i j*c i*c j:=by grind
   have e2:IntKind.i64.wrap (c i*c j*f i j)=f i j*c i*c j:=by rw[e0];exact aO (by omega) (by omega)
   have e4:nS n f c i j+f i j*c i*c j=nS n f c i (j+1):=by
    unfold nS;rw[cK,show Md f c i j=f i j*c i*c j from rfl,Int.add_assoc]
   have hb:((i:Int)+1)*((n:Int)*1125899906842624)<=18014398509481984:=by
    have:((i:Int)+1)*((n:Int)*1125899906842624)<=4*((n:Int)*1125899906842624):=Int.mul_le_mul_of_nonneg_right (by omega) (by omega);omega
   have e3:IntKind.i64.wrap (nS n f c i (j+1))=nS n f c i (j+1):=aO (by omega) (by omega);refine aC fun _ K=>?_;simp(disch:=omega) only[kd,slI,iC];apply K
   refine bu rfl ?_;refine aD (aJ ?_);refine aC fun _ K=>?_;simp only[kd];apply K
   refine fH aW (by kernel_rfl) fun _ K=>?_;simp(disch:=omega) only[kd,aa,hci,hcj,e1,hr,fR,hg,e2,e4,e3];apply K
   show bf _ _ _ _;refine aL fun _ K=>?_;simp(disch:=omega) only[kd,aO];apply K
   refine⟨⟨j+1,by omega⟩,by simp only;omega,aE trivial ?_⟩;simp[wk]
  have hjn:j=n:=by omega
  subst hjn;refine aC fun _ K=>?_;simp(disch:=omega) only[kd,slI,iC];apply K
  refine bD rfl ?_;show bf _ _ _ _;refine aL fun _ K=>?_;simp(disch:=omega) only[kd,aO];apply K
  refine⟨⟨i+1,by omega⟩,by simp only;omega,aE trivial ?_⟩;rw[I5];simp[wk]
 have hin:i=n:=by omega
 subst hin;refine aC fun _ K=>?_;simp(disch:=omega) only[kd,slI,iC];apply K
 refine bD rfl ?_;show bf _ _ _ _;rw[I4];refine aC fun _ K=>?_;simp only[kd];apply K
 (refine aH ⟨.inr rfl,aG rfl ?_ rfl⟩;simp(disch:=omega) only[kd,Tryz.results82])
/-! The next list of coefficients. -/
theorem FJ {c j:Nat} (h:c%3^j=3^j-1):c+1=3^j*(c/3^j+1):=by
 have h1:=Nat.div_add_mod c (3^j);have h2:0<3^j:=Nat.pow_pos (by omega);rw[Nat.mul_add,Nat.mul_one];omega
theorem LL {c j:Nat} (h:c%3^j=3^j-1) (hd:dg c j<1) (b:Nat):dg (c+1) b=if b<j then -1 else if b=j then dg c j+1 else dg c b:=by
 have hs:=FJ h;have hp: ∀k,0<3^k:=fun k=>Nat.pow_pos (by omega)
 have hd2:c/3^j%3<2:=by unfold dg at hd;omega
 unfold dg;split
 ·rename_i hb;obtain⟨m,rfl⟩: ∃m,j=b+1+m:=⟨j-b-1,by omega⟩;rw[hs,Nat.pow_add,Nat.pow_succ,show 3^b*3*3^m*(c/(3^b*3*3^m)+1)=3^b*(3*(3^m*(c/(3^b*3*3^m)+1))) by grind,Nat.mul_div_cancel_left _ (hp b),Nat.mul_mod_right];rfl
 split
 ·rename_i hb;subst hb;rw[hs,Nat.mul_div_cancel_left _ (hp b)];omega
 rename_i hb1 hb2;obtain⟨m,rfl⟩: ∃m,b=j+1+m:=⟨b-j-1,by omega⟩;have e1: ∀x,x/3^(j+1+m)=x/3^j/3/3^m:=fun x=>by rw[Nat.pow_add,Nat.pow_succ,<- Nat.div_div_eq_div_mul,<- Nat.div_div_eq_div_mul]
 rw[e1,e1,hs,Nat.mul_div_cancel_left _ (hp j),show(c/3^j+1)/3=c/3^j/3 by omega]
theorem IU {c j:Nat} (h:c%3^j=3^j-1) (hd: ¬dg c j<1):c%3^(j+1)=3^(j+1)-1:=by
 have hd2:c/3^j%3=2:=by
  have:=Nat.mod_lt (c/3^j) (show 0<3 by omega);unfold dg at hd;omega
 have h2:0<3^j:=Nat.pow_pos (by omega);rw[Nat.pow_succ,Nat.mod_mul,h,hd2];omega
def PL (i c:Nat):Nat->Int:=if c+1<3^i then cnd i (c+1)else fun b=>if b<i then -1 else cnd i c b
def Cx (i c j:Nat):Nat->Int:=fun b=>if b<j then -1 else cnd i c b
theorem Jp (i c:Nat):Cx i c 0=cnd i c:=by funext b;unfold Cx;rw[if_neg (by omega)]
theorem OZ {i c j:Nat} (hj:j<i):Cx i c j j=dg c j:=by unfold Cx cnd;rw[if_neg (by omega),if_pos hj]
theorem Jo (i c j:Nat):(fun b=>if b=j then -1 else Cx i c j b)=Cx i c (j+1):=by
 funext b;unfold Cx;by_cases h:b=j
 ·subst h;rw[if_pos rfl,if_pos (by omega)]
 by_cases h2:b<j
 ·rw[if_neg h,if_pos h2,if_pos (by omega)]
 rw[if_neg h,if_neg h2,if_neg (by omega)]
theorem Mj {i c j:Nat} (h:c%3^j=3^j-1) (hd:dg c j<1) (hj:j<i):(fun b=>if b=j then dg c j+1 else Cx i c j b)=cnd i (c+1):=by
 funext b;have:=LL h hd b;unfold Cx cnd;by_cases h1:b<i
 ·rw[if_pos h1,if_pos h1,this];by_cases h2:b<j
  ·rw[if_neg (by omega),if_pos h2,if_pos h2]
  rw[if_neg h2,if_neg h2]
 rw[if_neg h1,if_neg h1,if_neg (by omega),if_neg (by omega)]
theorem Kq {c i:Nat} (h:c%3^i=3^i-1) (hc:c<3^i): ¬c+1<3^i:=by
 rw[Nat.mod_eq_of_lt hc]at h;have h2:0<3^i:=Nat.pow_pos (by omega);omega
theorem IG {c i j:Nat} (hj:j<i) (hc:c<3^i) (hd:dg c j<1):c+1<3^i:=by
 refine Nat.lt_of_not_le fun hle=>?_
 have e:c+1=3^i:=by omega
 obtain⟨m,rfl⟩: ∃m,i=j+1+m:=⟨i-j-1,by omega⟩;have hp:0<3^j:=Nat.pow_pos (by omega);have hp2:0<3^m:=Nat.pow_pos (by omega);have e2:c=3^j*(3*3^m-1)+(3^j-1):=by
  have:3^(j+1+m)=3^j*(3*3^m):=by rw[Nat.pow_add,Nat.pow_succ,Nat.mul_assoc]
  obtain⟨z,hz⟩: ∃z,3*3^m=z+1:=⟨3*3^m-1,by omega⟩;rw[this,hz]at e;rw[hz,Nat.add_sub_cancel];rw[Nat.mul_add,Nat.mul_one]at e;omega
 have e3:c/3^j=3*3^m-1:=by
  rw[e2,Nat.mul_add_div hp,Nat.div_eq_of_lt (by omega),Nat.add_zero]
 unfold dg at hd;rw[e3]at hd;omega
structure RH (i c:Nat) where
 j:Nat
 hj:j<=i
 lo:c%3^j=3^j-1
theorem Mw (n i c:Nat) (h0:0<i) (hi:i<n) (hn:n<=4) (hc:c<3^i):
  pq Tryz.prog 81 [.undef] 0 0 i ⟨2,1,lc fI (bz n (cnd i c))⟩ ⟨2,1,lc fI (bz n (PL i c))⟩ (.raw (.bool (decide (c+1<3^i)))):=by
 refine pD Tryz.func81 rfl (by kernel_rfl) (by simp) h0 (by simp[lc,bv];omega) (dC _ _) rfl (by simp[lc,bv]) (dC _ _) rfl ?_;rw[Tryz.ntmps81];refine aX (by kernel_rfl) fun _ K=>?_;simp only[kd,ae];apply K
 refine dc (aX (by kernel_rfl) fun _ K=>?_);simp only[kd,aa];apply K;refine kF (G:=RH i c) (fun g=>⟨(.one (.sl 0 0 0 i)::jk::jk::jk::.one (.sl 0 0 0 i)::rN i::rN g.j::j16 (jk::[])),Hm [(0,[⟨2,1,lc fI (bz n (Cx i c g.j))⟩])]⟩) (fun g=>i-g.j) ⟨0,by omega,by simp;omega⟩ ?_ ?_
 ·refine aE ⟨?_,trivial⟩ ?_
  ·simp[Jp,famH]
  simp[wk]
 rintro⟨j,hj,lo⟩;simp only;by_cases hm:j<i
 ·have g1:=aR (m:=n) (Cx i c j) (j:=j) (by omega);rw[OZ hm]at g1;have hb:=DO c j;by_cases hd:dg c j<1
  ·have hlt:=IG hm hc hd;have e1:IntKind.i64.wrap (dg c j+1)=dg c j+1:=aO (by omega) (by omega);have s1:=sA n j (Cx i c j) (dg c j+1);rw[Mj lo hd hm]at s1;have eR:PL i c=cnd i (c+1):=if_pos hlt;rw[decide_eq_true hlt,eR];generalize dg c j=d at*
   generalize cnd i (c+1)=X at*
   refine aX (by kernel_rfl) fun _ K=>?_;simp(disch:=omega) only[kd];apply K
   refine qE rfl ?_;refine dc (fA ?_);refine aX (by kernel_rfl) fun _ K=>?_;simp only[kd];apply K
   refine dc (aX (by kernel_rfl) fun _ K=>?_);simp(disch:=omega) only[kd,aa,g1];apply K;refine lA rfl ?_;refine aX (by kernel_rfl) fun _ K=>?_;simp(disch:=omega) only[kd,aa,g1,e1,s1];apply K
   refine gB.weak (aE (tm:=(.one (.sl 0 0 0 i)::j16 (j4 (jk::jk::jk::[])))) (l:=[(0,[⟨2,1,lc fI (bz n X)⟩])]) ⟨rfl,trivial⟩ (by simp[wk])) ?_;refine aX (by kernel_rfl) fun _ K=>?_;simp only[kd];apply K
   refine nC ⟨.inr rfl,_,b8.refl _,rfl,qT _,?_⟩;simp(disch:=omega) only[kd,Tryz.results81]
  have s1:=sA n j (Cx i c j) (-1);rw[Jo]at s1;refine aX (by kernel_rfl) fun _ K=>?_;simp(disch:=omega) only[kd];apply K
  refine qE rfl ?_;refine dc (fA ?_);refine aX (by kernel_rfl) fun _ K=>?_;simp only[kd];apply K
  refine dc (aX (by kernel_rfl) fun _ K=>?_);simp(disch:=omega) only[kd,aa,g1];apply K;refine mr rfl (gO ?_);show gB _ _ _ _ _;refine d9 (by kernel_rfl) fun _ K=>?_;simp(disch:=omega) only[kd,aa,g1,s1];apply K
  show gB _ _ _ _ _;refine d9 (by kernel_rfl) fun _ K=>?_;simp(disch:=omega) only[kd,aO];apply K
  refine⟨⟨j+1,by omega,IU lo hd⟩,by simp only;omega,aE ⟨rfl,trivial⟩ ?_⟩;simp[wk]
 have hji:j=i:=by omega
 subst hji;have hnlt:=Kq lo hc;have eR:PL j c=Cx j c j:=if_neg hnlt;rw[decide_eq_false hnlt,eR];generalize Cx j c j=X at*
 refine aX (by kernel_rfl) fun _ K=>?_;simp(disch:=omega) only[kd];apply K
 refine td rfl ?_;show gB _ _ _ _ _;refine aX (by kernel_rfl) fun _ K=>?_;simp only[kd];apply K
 refine nC ⟨.inr rfl,_,b8.refl _,rfl,qT _,?_⟩;simp(disch:=omega) only[kd,Tryz.results81]
theorem Gi:CallC Tryz.prog 81 [.one (.p (.sl []))] ⟨[],.raw (.bool false)⟩:=by
 refine aI Tryz.func81 rfl (by kernel_rfl) ?_;rw[Tryz.ntmps81];refine aC fun _ K=>?_;simp only[kd,ae];apply K
 refine aD (aC fun _ K=>?_);simp only[kd,aa];apply K;refine aT (G:=Unit) (fun g=>⟨(j4 (jk::.raw (.int .i64 0)::.raw (.int .i64 0)::j16 (jk::[]))),Hm []⟩) (fun g=>0) () ?_ ?_
 ·refine aE trivial ?_;simp[wk]
 intro _;refine aC fun _ K=>?_;simp(disch:=omega) only[kd];apply K
 refine bD rfl ?_;show bf _ _ _ _;refine aC fun _ K=>?_;simp only[kd];apply K
 (refine aH ⟨.inr rfl,aG rfl ?_ rfl⟩;simp(disch:=omega) only[kd,Tryz.results81])
section
variable {n:Nat}
theorem LJ {h t:FF} {i:Nat} {c:Nat->Int} (hi:i<n) (hl:nrm n (cngF n h t) c<cngF n h t i i):DN n (cngF n h (dz t i (mV n t c)))<DN n (cngF n h t):=by
 refine Kh hi (fun a _ hne=>by rw[rH _ hne hne]) ?_;rw[zJ];exact Int.mul_lt_mul_of_pos_left hl (by omega)
theorem xS (h t:FF) (i a b:Nat):cngF n h (opC n t (.neg i)) a b=(if a=i then -1 else 1)*(if b=i then -1 else 1)*cngF n h t a b:=by
 have e: ∀c,(fun r=>opC n t (.neg i) r c)=if c=i then fun r=> - t r i else fun r=>t r c:=fun c=>by
  by_cases e1:c=i
  ·subst e1;funext r;simp[opC,dz]
  funext r;simp[opC,dz,e1]
 rw[dK,e,e,dK];by_cases ha:a=i
 ·subst ha;by_cases hb:b=a
  ·subst hb;simp only[if_true];rw[xu,Dc];omega
  simp only[if_true,if_neg hb];rw[xu];omega
 by_cases hb:b=i
 ·subst hb;simp only[if_true,if_neg ha];rw[Dc];omega
 simp only[if_neg ha,if_neg hb];omega
theorem LI (h t:FF) (i:Nat):DN n (cngF n h (opC n t (.neg i)))=DN n (cngF n h t):=by
 unfold DN;refine aY n fun a _=>?_
 rw[xS]
 congr 1
 split<;>omega
def Ap (n:Nat) (A:FF) (a:Nat):Int:=if 0<a/\A (a-1) a<0 then((2^(n-a):Nat):Int)else 0
theorem I9 (A:FF) (a:Nat):0<=Ap n A a/\Ap n A a<=((2^(n-a):Nat):Int):=by
 unfold Ap;generalize 2^(n-a)=q;split<;>omega
theorem Mf {h t:FF} {i:Nat} (h0:0<i) (hi:i<n) (hl:cngF n h t (i-1) i<0):Qm n (cngF n h (opC n t (.neg i)))<Qm n (cngF n h t):=by
 generalize hA:cngF n h t=A at*
 generalize hA':cngF n h (opC n t (.neg i))=A';have e: ∀a b,A' a b=(if a=i then -1 else 1)*(if b=i then -1 else 1)*A a b:=fun a b=>by rw[<- hA',<- hA];exact xS h t i a b
 show cK (Ap n A') n<cK (Ap n A) n;have e1:Ap n A' i=0:=by
  unfold Ap;rw[if_neg];rintro⟨_,g⟩;rw[e,if_neg (by omega),if_pos rfl]at g;omega
 have e2:Ap n A i=((2^(n-i):Nat):Int):=if_pos ⟨h0,hl⟩;have e3: ∀a,a≠i->a≠i+1->Ap n A' a=Ap n A a:=fun a h1 h2=>by
  unfold Ap;by_cases ha:0<a
  ·have e4:A' (a-1) a=A (a-1) a:=by
    rw[e,if_neg (show ¬a-1=i by omega),if_neg h1];omega
   rw[e4]
  rw[if_neg (fun g=>ha g.1),if_neg (fun g=>ha g.1)]
 have c1:=ql (F:=Ap n A) (G:=fun a=>if a=i then 0 else Ap n A a) hi (fun a _ hne=>by simp[hne]);simp only[if_true]at c1;rw[e2]at c1;have hpow:2^(n-i)=2*2^(n-(i+1)):=by
  rw[show n-i=(n-(i+1))+1 by omega,Nat.pow_succ];omega
 have hpos:0<2^(n-(i+1)):=Nat.pow_pos (by omega);rw[hpow]at c1;by_cases h2:i+1<n
 ·have c2:=ql (F:=fun a=>if a=i then 0 else Ap n A a) (G:=Ap n A') h2 (fun a _ hne=>by
   by_cases ha:a=i
   ·subst ha;rw[if_pos rfl,e1]
   rw[if_neg ha,e3 a ha hne])
  rw[if_neg (by omega)]at c2;have b1:=I9 (n:=n) A (i+1);have b2:=I9 (n:=n) A' (i+1);generalize 2^(n-(i+1))=q at*
  omega
 have c2:cK (Ap n A') n=cK (fun a=>if a=i then 0 else Ap n A a) n:=aY n fun a ha=>by
  by_cases hai:a=i
  ·subst hai;rw[if_pos rfl,e1]
  rw[if_neg hai,e3 a hai (by omega)]
 generalize 2^(n-(i+1))=q at*
 omega
theorem lZ {a:FF}: ∀m i op,scanR n a m i=some op->i<=op.i/\op.i<i+m/\(match op with
  | .swp j=>0<j/\a j j<a (j-1) (j-1)
  | .rep j c=>c<3^j/\nrm n a (cnd j c)<a j j
  | .neg j=>0<j/\a (j-1) j<0)
 |0,_,_,h=>by cases h
 |m+1,i,op,h=>by
  rw[scanR]at h;split at h
  ·rename_i hc;injection h with h
   subst h;exact⟨ac _,by show i<i+(m+1);omega,hc⟩
  split at h
  ·rename_i c hc;injection h with h
   subst h;obtain⟨_,h1,h2⟩:=tQ _ _ _ hc;exact⟨ac _,by show i<i+(m+1);omega,by omega,h2⟩
  split at h
  ·rename_i hc;injection h with h
   subst h;exact⟨ac _,by show i<i+(m+1);omega,hc⟩
  obtain⟨h1,h2,h3⟩:=lZ m (i+1) op h;exact⟨by omega,by omega,h3⟩
theorem vh {a:FF}: ∀m i,scanR n a m i=none-> ∀j,i<=j->j<i+m->(0<j->a (j-1) (j-1)<=a j j/\0<=a (j-1) j)/\ ¬VioP n a j
 |0,_,_=>fun j h1 h2=>by omega
 |m+1,i,h=>by
  rw[scanR]at h;split at h
  ·cases h
  rename_i h1;split at h
  ·cases h
  rename_i h2;split at h
  ·cases h
  rename_i h3;intro j hj1 hj2;by_cases e:j=i
  ·subst e;exact⟨fun h0=>by
    refine⟨?_,?_⟩
    ·rcases Int.lt_or_le (a j j) (a (j-1) (j-1))with g|g
     ·exact absurd ⟨h0,g⟩ h1
     exact g
    rcases Int.lt_or_le (a (j-1) j) 0 with g|g
    ·exact absurd ⟨h0,g⟩ h3
    exact g,mK h2⟩
  exact vh m (i+1) h j (by omega) (by omega)
theorem CR {a:FF} (h:scanR n a n 0=none):MinkP a n:=by
 have h1:=vh n 0 h;refine⟨fun i hi=>?_,fun i hi=>(h1 i (by omega) (by omega)).2⟩;have:=(h1 (i+1) (by omega) (by omega)).1 (by omega);rw[Nat.add_sub_cancel]at this;exact this
inductive RchR (n:Nat) (h:FF):(Nat->Nat->Int)->(Nat->Nat->Int)->Prop
 |done (t:FF):scanR n (cngF n h t) n 0=none->RchR n h t t
 |step (t R:FF) (op:sY):scanR n (cngF n h t) n 0=some op->RchR n h (opC n t op) R->RchR n h t R
structure InC2 (n:Nat) (h:FF) (W:Int) (t:FF):Prop where
 nr: ∀a,a<n->cngF n h t a a<=W
 dt:(dk t n).natAbs=1
theorem InC2.op {h t:FF} {W:Int} (ht:InC2 n h W t) {op:sY} (ho:scanR n (cngF n h t) n 0=some op):InC2 n h W (opC n t op):=by
 obtain⟨_,h1,h2⟩:=lZ n 0 op ho;cases op with
 |swp i=>
  have hi:i<n:=by simpa[sY.i] using h1
  obtain⟨h0,_⟩:=h2;refine⟨fun a ha=>?_,?_⟩
  ·have e2:(fun r=>opC n t (.swp i) r a)=if a=i then fun r=>t r (i-1)else if a=i-1 then fun r=>t r i else fun r=>t r a:=by
    by_cases e1:a=i
    ·subst e1;simp[opC]
    by_cases e3:a=i-1
    ·rw[if_neg e1,if_pos e3];funext r;exact(if_neg e1).trans (if_pos e3)
    simp[opC,e1,e3]
   rw[dK,e2];split
   ·rw[<- dK];exact ht.nr _ (by omega)
   split
   ·rw[<- dK];exact ht.nr _ hi
   rw[<- dK];exact ht.nr _ ha
  have:=BL (R:=t) (n:=n) (a:=i) (b:=i-1) hi (by omega) (by omega);show(dk (fun r c=>if c=i then t r (i-1)else if c=i-1 then t r i else t r c) n).natAbs=1;rw[this,Int.natAbs_neg];exact ht.dt
 |rep i c=>
  have hi:i<n:=by simpa[sY.i] using h1
  obtain⟨_,h3⟩:=h2;refine⟨fun a ha=>?_,?_⟩
  ·by_cases e:a=i
   ·subst e;show cngF n h (dz t a (mV n t (cnd a c))) a a<=W;rw[zJ];have:=ht.nr a ha;omega
   show cngF n h (dz t i (mV n t (cnd i c))) a a<=W;rw[rH _ e e];exact ht.nr a ha
  show(dk (dz t i (mV n t (cnd i c))) n).natAbs=1;rw[DQ hi,show cnd i c i=1 by simp[cnd],Int.one_mul];exact ht.dt
 |neg i=>
  have hi:i<n:=by simpa[sY.i] using h1
  refine⟨fun a ha=>?_,?_⟩
  ·rw[xS];have:=ht.nr a ha;split<;>omega
  show(dk (dz t i (fun r=> - t r i)) n).natAbs=1;rw[wC hi,Int.natAbs_neg];exact ht.dt
theorem IY {h t:FF} {op:sY} (ho:scanR n (cngF n h t) n 0=some op):FP n (cngF n h (opC n t op))<FP n (cngF n h t):=by
 obtain⟨_,h1,h2⟩:=lZ n 0 op ho;cases op with
 |swp i=>exact NR (LK h2.1 (by simpa[sY.i] using h1) h2.2)
 |rep i c=>exact NR (LJ (by simpa[sY.i] using h1) h2.2)
 |neg i=>
  have:=Mf h2.1 (by simpa[sY.i] using h1) h2.2;unfold FP;rw[LI];omega
theorem BJ {h t:FF} (hp:PD h n):0<=DN n (cngF n h t):=pk n fun a _=>Int.mul_nonneg (by omega) (by rw[dK];exact(hp.pos _).1)
theorem o5 {h t:FF} (hp:PD h n):0<=FP n (cngF n h t):=by
 have h1:=BJ (n:=n) (t:=t) hp;have h2:=Ct (n:=n) (cngF n h t);have h3:0<=(n:Int)*((2^n:Nat):Int)+1:=by omega
 have:=Int.mul_nonneg h1 h3;unfold FP;omega
theorem AF {h:FF} (hp:PD h n) {W:Int}: ∀(m:Nat) (t:FF),(FP n (cngF n h t)).toNat=m->InC2 n h W t-> ∃R,RchR n h t R:=fun m=>by
 induction m using Nat.strongRecOn with
 |_ m ih=>
  intro t hm ht;cases ho:scanR n (cngF n h t) n 0 with
  |none=>exact⟨_,.done t ho⟩
  |some op=>
   have h1:=IY ho;have h2:=o5 (n:=n) (t:=t) hp;have h3:=o5 (n:=n) (t:=opC n t op) hp;obtain⟨R,hR⟩:=ih (FP n (cngF n h (opC n t op))).toNat (by omega) _ rfl (ht.op ho);exact⟨R,.step t R op ho hR⟩
theorem JQ {h t R:FF} {W:Int} (hr:RchR n h t R) (ht:InC2 n h W t):InC2 n h W R/\MinkP (cngF n h R) n:=by
 induction hr with
 |done t ho=>exact⟨ht,CR ho⟩
 |step t R op ho _ ih=>exact ih (ht.op ho)
end
section
variable {n:Nat}
theorem xg {f:FF} (hs:SymF f n) (hp: ∀k,k<n->0<dk f (k+1)) (x:Nat->Int) {k:Nat} (hk:k<n):
  dk f k*BF n (bk f (k+1)) x x=dk f (k+1)*BF n (bk f k) x x-cK (fun j=>bk f k k j*x j) n*cK (fun j=>bk f k k j*x j) n:=by
 have hne: ∀t,t<n->dk f (t+1)≠0:=fun t ht=>by have:=hp t ht;omega
 have e0:dk f k*BF n (bk f (k+1)) x x=BF n (fun i j=>dk f k*bk f (k+1) i j+0*bk f k i j) x x:=by rw[sc];omega
 rw[e0,ea (f':=fun i j=>dk f (k+1)*bk f k i j+(-1)*(bk f k k i*bk f k k j)) (fun i j hi hj=>by
  have:=sylv f k (fun t ht=>hne t (by omega)) i j;have e:=kp hs k (by omega) (fun t ht=>hne t (by omega)) i k hi (by omega);rw[e]at this;omega) (fun _ _=>rfl) (fun _ _=>rfl),sc,Dd,aY n (F:=fun i=>x i*bk f k k i) (G:=fun j=>bk f k k j*x j) (fun i _=>Int.mul_comm _ _)]
 omega
theorem AY {f:FF} (hr:PD f n) (x:Nat->Int) {N:Int} (hN:BF n f x x<=N): ∀k,k<=n->BF n (bk f k) x x<=N*dk f k
 |0,_=>by
  rw[dx,Int.mul_one,ea (fun i j _ _=>dF f i j) (fun _ _=>rfl) (fun _ _=>rfl)];exact hN
 |k+1,hk=>by
  have ih:=AY hr x hN k (by omega);have hkey:=xg hr.1 hr.2 x (show k<n by omega);have hd:0<dk f k:=kq fun t ht=>hr.2 t (by omega)
  have hd1:=hr.2 k (by omega);have hsq:0<=cK (fun j=>bk f k k j*x j) n*cK (fun j=>bk f k k j*x j) n:=by
   rcases Int.le_total 0 (cK (fun j=>bk f k k j*x j) n)with h|h
   ·exact Int.mul_nonneg h h
   exact Int.mul_nonneg_of_nonpos_of_nonpos h h
  have h1:dk f (k+1)*BF n (bk f k) x x<=dk f (k+1)*(N*dk f k):=Int.mul_le_mul_of_nonneg_left ih (by omega);have h2:dk f k*BF n (bk f (k+1)) x x<=dk f k*(N*dk f (k+1)):=by
   have e:dk f (k+1)*(N*dk f k)=dk f k*(N*dk f (k+1)):=by grind
   rw[<- e];omega
  exact Int.le_of_mul_le_mul_left h2 hd
theorem IR {f:FF} (hr:RedR f n): ∀k,k<n->dk f k<=((2^k:Nat):Int)*dk f (k+1)
 |0,h=>by
  have h1:=hr.2.1 0 h;have h2:((2^0:Nat):Int)=1:=rfl;rw[dx,h2,Int.one_mul];omega
 |k+1,h=>by
  have ih:=IR hr k (by omega);obtain⟨hs,hl⟩:=hr.2.2.2 k h;have hd1:=hr.2.1 k (by omega);have hd2:=hr.2.1 (k+1) h;unfold K1 at hl;have hsz:=hs (k+1) h (by omega);generalize bk f k (k+1) k=l at*
  generalize dk f (k+1+1)=d2 at*
  generalize dk f (k+1)=d1 at*
  generalize dk f k=d0 at*
  have h4:4*(l*l)<=d1*d1:=by
   have e:(2*l.natAbs)*(2*l.natAbs)<=d1.toNat*d1.toNat:=Nat.mul_le_mul (by omega) (by omega);have e1:(((2*l.natAbs)*(2*l.natAbs):Nat):Int)=4*(l*l):=by
    have:((l.natAbs*l.natAbs:Nat):Int)=l*l:=Int.natAbs_mul_self;rw[<- this];simp only[Int.natCast_mul];grind
   have e2:((d1.toNat*d1.toNat:Nat):Int)=d1*d1:=by
    have:((d1.toNat:Nat):Int)=d1:=by omega
    rw[Int.natCast_mul,this]
   have:=Int.ofNat_le.2 e;rw[e1,e2]at this;exact this
  have h5:d1*d1<=2*(d0*d2):=by
   have e:3*d1*d1=3*(d1*d1):=by grind
   omega
  have h6:d0*d2<=((2^k:Nat):Int)*d1*d2:=Int.mul_le_mul_of_nonneg_right ih (by omega);have h7:d1*d1<=d1*(((2^(k+1):Nat):Int)*d2):=by
   have e:d1*(((2^(k+1):Nat):Int)*d2)=2*(((2^k:Nat):Int)*d1*d2):=by
    rw[Nat.pow_succ,Int.natCast_mul];grind
   omega
  exact Int.le_of_mul_le_mul_left h7 hd1
theorem Fm {f:FF} (hr:RedR f n) (x:Nat->Int) {N:Int} (h0:0<=N) (hN:BF n f x x<=N) {M:Nat} (hM:N*((2^n:Nat):Int)<=(M:Int)*(M:Int)): ∀m k,m+k+1=n->(x k).natAbs<=M*2^m:=fun m=>by
 induction m using Nat.strongRecOn with
 |_ m ih=>
  intro k hk;have hp:=hr.pd;have hkn:k<n:=by omega
  have hne: ∀t,t<n->dk f (t+1)≠0:=fun t ht=>by have:=hr.2.1 t ht;omega
  have hd1:=hr.2.1 k hkn;have hd:0<dk f k:=kq fun t ht=>hr.2.1 t (by omega)
  have hkey:=xg hp.1 hp.2 x hkn;have hle:=AY hp x hN k (by omega);have hq1:=(ot hp.1 hp.2 x (n-(k+1)) (k+1) (by omega)).1;have hll:=IR hr k hkn
  -- the sum
  obtain⟨L,hL⟩: ∃L,L=cK (fun j=>bk f k k j*x j) n:=⟨_,rfl⟩;rw[<- hL]at hkey;have hLL:L*L<=(M*dk f (k+1))*(M*dk f (k+1)):=by
   have a1:0<=dk f k*BF n (bk f (k+1)) x x:=Int.mul_nonneg (by omega) hq1;have a2:dk f (k+1)*BF n (bk f k) x x<=dk f (k+1)*(N*dk f k):=Int.mul_le_mul_of_nonneg_left hle (by omega);have a3:dk f (k+1)*(N*dk f k)<=dk f (k+1)*(N*(((2^k:Nat):Int)*dk f (k+1))):=Int.mul_le_mul_of_nonneg_left (Int.mul_le_mul_of_nonneg_left hll h0) (by omega);have a4:N*((2^k:Nat):Int)<=(M:Int)*(M:Int):=by
    have:((2^k:Nat):Int)<=((2^n:Nat):Int):=Int.ofNat_le.2 (Nat.pow_le_pow_right (by omega) (by omega));exact Int.le_trans (Int.mul_le_mul_of_nonneg_left this h0) hM
   have a5:N*((2^k:Nat):Int)*(dk f (k+1)*dk f (k+1))<=(M:Int)*(M:Int)*(dk f (k+1)*dk f (k+1)):=Int.mul_le_mul_of_nonneg_right a4 (Int.mul_nonneg (by omega) (by omega));have e1:dk f (k+1)*(N*(((2^k:Nat):Int)*dk f (k+1)))=N*((2^k:Nat):Int)*(dk f (k+1)*dk f (k+1)):=by grind
   have e2:(M*dk f (k+1))*(M*dk f (k+1))=(M:Int)*(M:Int)*(dk f (k+1)*dk f (k+1)):=by grind
   omega
  have hLa:L.natAbs<=M*(dk f (k+1)).toNat:=by
   have e:(M:Int)*dk f (k+1)=((M*(dk f (k+1)).toNat:Nat):Int):=by
    have:(((dk f (k+1)).toNat:Nat):Int)=dk f (k+1):=by omega
    rw[Int.natCast_mul,this]
   rw[e]at hLL;have:=Kk hLL;omega
  -- the other coordinates
  have hrest: ∀q,k+1+q<=n->2*(cK (fun j=>bk f k k j*x j) (k+1+q)-dk f (k+1)*x k).natAbs<=(dk f (k+1)).toNat*(M*(2^(m+1)-2^(m+1-q))):=fun q=>by
   induction q with
   |zero=>
    intro _;have e:cK (fun j=>bk f k k j*x j) (k+1)=dk f (k+1)*x k:=by
     rw[cK,aY k (G:=fun _=>0) (fun j hj=>by rw[xN hp.1 hne (by omega) hj (by omega),Int.zero_mul]),fg,bY];omega
    rw[Nat.add_zero,e];simp
   |succ q ihq=>
    intro hq;have ih1:=ihq (by omega);rw[<- Nat.add_assoc,cK];have hx:=ih (n-(k+1+q)-1) (by omega) (k+1+q) (by omega);have hsz:=(hr.2.2.2 k (by omega)).1 (k+1+q) (by omega) (by omega);have hsym:=kp hp.1 k (by omega) (fun t ht=>hne t (by omega)) k (k+1+q) hkn (by omega);rw[hsym];rw[show n-(k+1+q)-1=m-1-q by omega]at hx;have hpw:2^(m+1-q)=2*2^(m+1-(q+1))/\2^(m+1-(q+1))=2*2^(m-1-q):=by
     refine⟨?_,?_⟩
     ·rw[show m+1-q=(m+1-(q+1))+1 by omega,Nat.pow_succ];omega
     rw[show m+1-(q+1)=(m-1-q)+1 by omega,Nat.pow_succ];omega
    have hpl:2^(m+1-q)<=2^(m+1):=Nat.pow_le_pow_right (by omega) (by omega);have hD:(((dk f (k+1)).toNat:Nat):Int)=dk f (k+1):=by omega
    have e5:cK (fun j=>bk f k k j*x j) (k+1+q)+bk f k (k+1+q) k*x (k+1+q)-dk f (k+1)*x k=(cK (fun j=>bk f k k j*x j) (k+1+q)-dk f (k+1)*x k)+bk f k (k+1+q) k*x (k+1+q):=by omega
    rw[e5];generalize cK (fun j=>bk f k k j*x j) (k+1+q)-dk f (k+1)*x k=S at*
    generalize bk f k (k+1+q) k=l at*
    generalize x (k+1+q)=y at*
    generalize(dk f (k+1)).toNat=D at*
    have hl:2*l.natAbs<=D:=by omega
    have hly:2*(l*y).natAbs<=D*(M*2^(m-1-q)):=by
     rw[Int.natAbs_mul,<- Nat.mul_assoc];exact Nat.mul_le_mul hl hx
    have hab:=Int.natAbs_add_le S (l*y);generalize 2^(m-1-q)=P at*
    generalize 2^(m+1)=A at*
    obtain⟨p1,p2⟩:=hpw;rw[p1,p2]at ih1 hpl;rw[p2];have h6:D*(M*(A-2*(2*P)))+D*(M*P)<=D*(M*(A-2*P)):=by
     rw[<- Nat.mul_add,<- Nat.mul_add];exact Nat.mul_le_mul_left _ (Nat.mul_le_mul_left _ (by omega))
    omega
  have hfin:=hrest m (by omega);rw[show k+1+m=n by omega,<- hL,show m+1-m=1 by omega]at hfin;have hD:(((dk f (k+1)).toNat:Nat):Int)=dk f (k+1):=by omega
  have hDp:0<(dk f (k+1)).toNat:=by omega
  have hdx:(dk f (k+1)*x k).natAbs=(dk f (k+1)).toNat*(x k).natAbs:=by
   rw[Int.natAbs_mul];congr 1;omega
  have hab:(dk f (k+1)*x k).natAbs<=L.natAbs+(L-dk f (k+1)*x k).natAbs:=by omega
  rw[hdx]at hab;have hpw:2^(m+1)=2*2^m:=by rw[Nat.pow_succ];omega
  have hpos:0<2^m:=Nat.pow_pos (by omega);generalize(L-dk f (k+1)*x k).natAbs=r at*
  generalize(dk f (k+1)).toNat=D at*
  generalize(x k).natAbs=z at*
  generalize L.natAbs=w at*
  rw[hpw]at hfin;generalize 2^m=P at*
  have h7:2*(M*D)+D*(M*(2*P-2^1))=D*(2*(M*P)):=by
   have e:2*P-2^1=2*(P-1):=by omega
   rw[e];obtain⟨p,rfl⟩: ∃p,P=p+1:=⟨P-1,by omega⟩;rw[Nat.add_sub_cancel];grind
  have h8:D*(2*z)<=D*(2*(M*P)):=by
   have e:D*(2*z)=2*(D*z):=by grind
   omega
  have:=Nat.le_of_mul_le_mul_left h8 hDp;omega
end
section
variable {n:Nat}
def l1 (y:Nat->Int):Nat->Nat
 |0=>0
 |k+1=>l1 y k+(y k).natAbs
end
section
variable {n:Nat}
theorem Pj {F:Nat->Int} {p q m:Nat} (hp:p<m) (hq:q<m):cK (fun a=>if a=p then F q else if a=q then F p else F a) m=cK F m:=by
 by_cases h:p=q
 ·subst h;exact aY m fun a _=>by
   by_cases e:a=p
   ·subst e;rw[if_pos rfl]
   rw[if_neg e,if_neg e]
 have h1:=ql (F:=F) (G:=fun a=>if a=p then F q else F a) hp (fun a _ hne=>(if_neg hne).symm);have h2:=ql (F:=fun a=>if a=p then F q else F a) (G:=fun a=>if a=p then F q else if a=q then F p else F a) hq (fun a _ hne=>by
  by_cases e:a=p
  ·rw[if_pos e,if_pos e]
  rw[if_neg e,if_neg e,if_neg hne])
 rw[if_pos rfl]at h1;rw[if_neg (Ne.symm h),if_pos rfl,if_neg (Ne.symm h)]at h2;omega
end
section
variable {n:Nat}
def Ha (n:Nat) (t:FF):Prop:= ∀v:Nat->Int,∃y,∀j,j<n->mV n t y j=v j
theorem Ha.of {t t':FF} (h:Ha n t) (k: ∀x,∃y,∀j,j<n->mV n t' y j=mV n t x j):Ha n t':=fun v=>by
 obtain⟨x,hx⟩:=h v;obtain⟨y,hy⟩:=k x;exact⟨y,fun j hj=>by rw[hy j hj,hx j hj]⟩
theorem Ha.one:Ha n (fun i j=>if i=j then 1 else 0):=fun v=>⟨v,fun j hj=>by
 show cK (fun a=>v a*(if j=a then 1 else 0)) n=v j;rw[iD hj (fun p _ hne=>by rw[if_neg (Ne.symm hne),Int.mul_zero]),if_pos rfl,Int.mul_one]⟩
theorem Ha.congr {t t':FF} (h:Ha n t) (e: ∀i j,i<n->j<n->t' i j=t i j):Ha n t':=h.of fun x=>⟨x,fun j hj=>aY n fun a ha=>by rw[e j a hj ha]⟩
theorem Ha.swap {t:FF} (h:Ha n t) {p q:Nat} (hp:p<n) (hq:q<n):Ha n (fun i c=>if c=p then t i q else if c=q then t i p else t i c):=h.of fun x=>
 ⟨fun a=>if a=p then x q else if a=q then x p else x a,fun j _=>by
  unfold mV;rw[<- Pj (F:=fun a=>x a*t j a) hp hq];refine aY n fun a _=>?_
  show(if a=p then x q else if a=q then x p else x a)*(if a=p then t j q else if a=q then t j p else t j a)=if a=p then x q*t j q else if a=q then x p*t j p else x a*t j a
  by_cases e:a=p
  ·rw[if_pos e,if_pos e,if_pos e]
  rw[if_neg e,if_neg e,if_neg e];by_cases e2:a=q
  ·rw[if_pos e2,if_pos e2,if_pos e2]
  rw[if_neg e2,if_neg e2,if_neg e2]⟩
/-! The program's loop. -/
/-! The reference's loop. -/
end
theorem Rc {n:Nat} {X:Nat->Int} (h: ∀j,j<n->X j=0):lc fI (bz n X)=ae n [.p (.raw (.int .i64 0))]:=by
 have e:bz n X=ae n 0:=by
  apply List.ext_getElem?;intro j;by_cases hj:j<n
  ·rw[aR _ hj,List.getElem?_replicate,if_pos hj,h j hj]
  rw[aq (by rw[bv];omega),aq (by simp;omega)]
 rw[e,lc,List.map_replicate];rfl
def oI (M:List (List Int)) (n:Nat):Prop:=M.length=n/\ ∀q∈M,q.length=n
structure P2 (M:List (List Int)) (n:Nat) where
 i:Nat
 hi:i<=M.length
 ok: ∀a,a<i-> ∀q,M[a]?=some q->q.length=n
theorem Kj {M:List (List Int)} {n:Nat} (h: ∀a,a<M.length-> ∀q,M[a]?=some q->q.length=n): ∀q∈M,q.length=n:=fun q hq=>by
 obtain⟨a,ha⟩:=List.mem_iff_getElem?.1 hq;exact h a (List.getElem?_eq_some_iff.1 ha).1 q ha
structure RA (x y:List Int) where
 i:Nat
 hi:i<=x.length
 ok: ∀a,a<i->x[a]?=y[a]?
structure RB (x y:List (List Int)) where
 i:Nat
 hi:i<=x.length
 ok: ∀a,a<i->x[a]?=y[a]?
theorem Is {α:Type} {x y:List α} (hl:x.length=y.length) (h: ∀a,a<x.length->x[a]?=y[a]?):x=y:=by
 apply List.ext_getElem?;intro a;by_cases ha:a<x.length
 ·exact h a ha
 rw[aq (by omega),aq (by omega)]
theorem j1 (M:List (List Int)) (n:Nat) (r:Bool) (hr:r=true↔oI M n) (hb:M.length<=1000000):CallC Tryz.prog 70 [slI M,.raw (.int .i64 (n:Int))] ⟨[],.raw (.bool r)⟩:=by
 refine aI Tryz.func70 rfl (by kernel_rfl) ?_;rw[Tryz.ntmps70];refine aC fun _ K=>?_;simp only[kd,slI,aa,ae];apply K
 refine aD (aC fun _ K=>?_);simp only[kd,aa];apply K;refine aT (G:=P2 M n) (fun g=>⟨(slI M::rN n::j4 (jk::slI M::rN M.length::rN g.i::j4 (j4 (j4 ([]))))),Hm []⟩) (fun g=>M.length-g.i) ⟨0,by omega,fun a ha=>by omega⟩ ?_ ?_
 ·refine aE trivial ?_;simp[wk]
 rintro⟨i,hi,ok⟩;simp only;by_cases hm:i<M.length
 ·obtain⟨q,hq⟩: ∃q,M[i]?=some q:=⟨M[i],ar hm⟩;refine aC fun _ K=>?_;simp(disch:=omega) only[kd,slI];apply K
  refine bu rfl ?_;refine aD (aJ ?_);refine aC fun _ K=>?_;simp(disch:=omega) only[kd,aa,hq,fR];apply K
  by_cases hql:q.length=n
  ·refine aC fun _ K=>?_;simp(disch:=omega) only[kd,aa,hql];apply K
   refine aN rfl (aK ?_);show bf _ _ _ _;refine aL fun _ K=>?_;simp(disch:=omega) only[kd,aO];apply K
   refine⟨⟨i+1,by omega,fun a ha q' hq'=>?_⟩,by simp only;omega,aE trivial ?_⟩
   ·by_cases e:a=i
    ·subst e;rw[hq]at hq';injection hq' with hq'
     rw[<- hq'];exact hql
    exact ok a (by omega) q' hq'
   simp[wk]
  have hr0:r=false:=by
   cases r with
   |false=>rfl
   |true=>exact absurd ((hr.1 rfl).2 q (au hq)) hql
  subst hr0;refine aC fun _ K=>?_;simp(disch:=omega) only[kd,aa];apply K
  refine aS rfl ?_;refine aC fun _ K=>?_;simp only[kd];apply K
  (refine aH ⟨.inr rfl,aG rfl ?_ rfl⟩;simp(disch:=omega) only[kd,Tryz.results70])
 have hall:=Kj fun a ha=>ok a (by omega)
 have hd:r=decide ((M.length:Int)=(n:Int)):=by
  cases r with
  |true=>rw[decide_eq_true (by have:=(hr.1 rfl).1;omega)]
  |false=>
   rw[decide_eq_false];intro h;have:=hr.2 ⟨by omega,hall⟩;cases this
 rw[hd];refine aC fun _ K=>?_;simp(disch:=omega) only[kd,slI];apply K
 refine bD rfl ?_;show bf _ _ _ _;refine aC fun _ K=>?_;simp only[kd,aa];apply K
 (refine aH ⟨.inr rfl,aG rfl ?_ rfl⟩;simp(disch:=omega) only[kd,Tryz.results70])
theorem DY (x y:List Int) (r:Bool) (hr:r=true↔x=y) (hb:x.length<=1000000):CallC Tryz.prog 73 [iC x,iC y] ⟨[],.raw (.bool r)⟩:=by
 by_cases hl:x.length=y.length
 ·have hl':(x.length:Int)=(y.length:Int):=by omega
  refine aI Tryz.func73 rfl (by kernel_rfl) ?_;rw[Tryz.ntmps73];refine aC fun _ K=>?_;simp only[kd,iC,aa,ae];apply K
  refine aD (aC fun _ K=>?_);simp(disch:=omega) only[kd,aa];apply K;refine aN rfl (aK ?_);show bf _ _ _ _;refine aD (aC fun _ K=>?_);simp only[kd,aa];apply K;refine aT (G:=RA x y) (fun g=>⟨(iC x::iC y::j4 (j4 (jk::jk::rN x.length::rN g.i::j4 (j4 (j4 ([])))))),Hm []⟩) (fun g=>x.length-g.i) ⟨0,by omega,fun a ha=>by omega⟩ ?_ ?_
  ·refine aE trivial ?_;simp[wk]
  rintro⟨i,hi,ok⟩;simp only;by_cases hm:i<x.length
  ·obtain⟨p,hp⟩: ∃p,x[i]?=some p:=⟨x[i],ar hm⟩;obtain⟨q,hq⟩: ∃q,y[i]?=some q:=⟨y[i]'(by omega),ar (by omega)⟩;have hm2:i<y.length:=by omega
   by_cases e:p=q
   ·refine aC fun _ K=>?_;simp(disch:=omega) only[kd,iC];apply K
    refine bu rfl ?_;refine aD (aJ ?_);refine aC fun _ K=>?_;simp only[kd];apply K
    refine b9 aW (by kernel_rfl) fun _ K=>?_;simp(disch:=omega) only[kd,aa,hp,hq];apply K
    refine aN rfl (aK ?_);show bf _ _ _ _;refine aL fun _ K=>?_;simp(disch:=omega) only[kd,aO];apply K
    refine⟨⟨i+1,by omega,fun a ha=>?_⟩,by simp only;omega,aE trivial ?_⟩
    ·by_cases e2:a=i
     ·subst e2;rw[hp,hq,e]
     exact ok a (by omega)
    simp[wk]
   have hr0:r=false:=by
    cases r with
    |false=>rfl
    |true=>
     have:=hr.1 rfl;subst this;rw[hp]at hq;injection hq with hq
     exact absurd hq e
   subst hr0;refine aC fun _ K=>?_;simp(disch:=omega) only[kd,iC];apply K
   refine bu rfl ?_;refine aD (aJ ?_);refine aC fun _ K=>?_;simp only[kd];apply K
   refine b9 aW (by kernel_rfl) fun _ K=>?_;simp(disch:=omega) only[kd,aa,hp,hq];apply K
   refine aS rfl ?_;refine aC fun _ K=>?_;simp only[kd];apply K
   (refine aH ⟨.inr rfl,aG rfl ?_ rfl⟩;simp(disch:=omega) only[kd,Tryz.results73])
  have hr1:r=true:=hr.2 (Is hl fun a ha=>ok a (by omega));subst hr1;refine aC fun _ K=>?_;simp(disch:=omega) only[kd,iC];apply K
  refine bD rfl ?_;show bf _ _ _ _;refine aC fun _ K=>?_;simp only[kd];apply K
  (refine aH ⟨.inr rfl,aG rfl ?_ rfl⟩;simp(disch:=omega) only[kd,Tryz.results73])
 have hr0:r=false:=by
  cases r with
  |false=>rfl
  |true=>exact absurd (congrArg List.length (hr.1 rfl)) hl
 subst hr0;refine aI Tryz.func73 rfl (by kernel_rfl) ?_;rw[Tryz.ntmps73];refine aC fun _ K=>?_;simp only[kd,iC,aa,ae];apply K
 refine aD (aC fun _ K=>?_);simp(disch:=omega) only[kd,aa];apply K;refine aS rfl ?_;refine aC fun _ K=>?_;simp only[kd];apply K
 (refine aH ⟨.inr rfl,aG rfl ?_ rfl⟩;simp(disch:=omega) only[kd,Tryz.results73])
abbrev Qa:TV:= .raw (.func (.func 73) #[] #[])
theorem zU (x y:List (List Int)) (r:Bool) (hr:r=true↔x=y) (hb:x.length<=1000000) (hb2: ∀p∈x,p.length<=1000000):CallC Tryz.prog 72 [slI x,slI y,Qa] ⟨[],.raw (.bool r)⟩:=by
 by_cases hl:x.length=y.length
 ·have hl':(x.length:Int)=(y.length:Int):=by omega
  refine aI Tryz.func72 rfl (by kernel_rfl) ?_;rw[Tryz.ntmps72];refine aC fun _ K=>?_;simp only[kd,slI,aa,ae];apply K
  refine aD (aC fun _ K=>?_);simp(disch:=omega) only[kd,aa];apply K;refine aN rfl (aK ?_);show bf _ _ _ _;refine aD (aC fun _ K=>?_);simp only[kd,aa];apply K;refine aT (G:=RB x y) (fun g=>⟨(slI x::slI y::Qa::j4 (j4 (j4 (slI x::rN x.length::rN g.i::j4 (j4 (j4 (jk::jk::[]))))))),Hm []⟩) (fun g=>x.length-g.i) ⟨0,by omega,fun a ha=>by omega⟩ ?_ ?_
  ·refine aE trivial ?_;simp[wk]
  rintro⟨i,hi,ok⟩;simp only;by_cases hm:i<x.length
  ·obtain⟨p,hp⟩: ∃p,x[i]?=some p:=⟨x[i],ar hm⟩;obtain⟨q,hq⟩: ∃q,y[i]?=some q:=⟨y[i]'(by omega),ar (by omega)⟩;have hm2:i<y.length:=by omega
   by_cases e:p=q
   ·have cE:=DY p q true (by simp[e]) (hb2 p (au hp));refine aC fun _ K=>?_;simp(disch:=omega) only[kd,slI];apply K
    refine bu rfl ?_;refine aD (aJ ?_);refine aC fun _ K=>?_;simp(disch:=omega) only[kd,aa,hp,fR];apply K
    refine aC fun _ K=>?_;simp(disch:=omega) only[kd,aa,hq,fR];apply K
    refine aF [⟨3,_,_,_,cE⟩] [] fun _ K=>?_;simp(disch:=omega) only[kd,iC,aa,Array.isEmpty,Array.size];apply K
    refine aN rfl (aK ?_);show bf _ _ _ _;refine aL fun _ K=>?_;simp(disch:=omega) only[kd,aO];apply K
    refine⟨⟨i+1,by omega,fun a ha=>?_⟩,by simp only;omega,aE trivial ?_⟩
    ·by_cases e2:a=i
     ·subst e2;rw[hp,hq,e]
     exact ok a (by omega)
    simp[wk]
   have hr0:r=false:=by
    cases r with
    |false=>rfl
    |true=>
     have:=hr.1 rfl;subst this;rw[hp]at hq;injection hq with hq
     exact absurd hq e
   subst hr0;have cE:=DY p q false (by simp[e]) (hb2 p (au hp));refine aC fun _ K=>?_;simp(disch:=omega) only[kd,slI];apply K
   refine bu rfl ?_;refine aD (aJ ?_);refine aC fun _ K=>?_;simp(disch:=omega) only[kd,aa,hp,fR];apply K
   refine aC fun _ K=>?_;simp(disch:=omega) only[kd,aa,hq,fR];apply K
   refine aF [⟨3,_,_,_,cE⟩] [] fun _ K=>?_;simp(disch:=omega) only[kd,iC,aa,Array.isEmpty,Array.size];apply K
   refine aS rfl ?_;refine aC fun _ K=>?_;simp only[kd];apply K
   (refine aH ⟨.inr rfl,aG rfl ?_ rfl⟩;simp(disch:=omega) only[kd,Tryz.results72])
  have hr1:r=true:=hr.2 (Is hl fun a ha=>ok a (by omega));subst hr1;refine aC fun _ K=>?_;simp(disch:=omega) only[kd,slI];apply K
  refine bD rfl ?_;show bf _ _ _ _;refine aC fun _ K=>?_;simp only[kd];apply K
  (refine aH ⟨.inr rfl,aG rfl ?_ rfl⟩;simp(disch:=omega) only[kd,Tryz.results72])
 have hr0:r=false:=by
  cases r with
  |false=>rfl
  |true=>exact absurd (congrArg List.length (hr.1 rfl)) hl
 subst hr0;refine aI Tryz.func72 rfl (by kernel_rfl) ?_;rw[Tryz.ntmps72];refine aC fun _ K=>?_;simp only[kd,slI,aa,ae];apply K
 refine aD (aC fun _ K=>?_);simp(disch:=omega) only[kd,aa];apply K;refine aS rfl ?_;refine aC fun _ K=>?_;simp only[kd];apply K
 (refine aH ⟨.inr rfl,aG rfl ?_ rfl⟩;simp(disch:=omega) only[kd,Tryz.results72])
theorem Iu {n:Nat} {a:FF} {i c:Nat} (hc:nrm n a (cnd i c)<a i i): ∀m c0,c0<=c->c<c0+m->(∀r,c0<=r->r<c-> ¬nrm n a (cnd i r)<a i i)->K4 n a i m c0=some c
 |0,c0,h1,h2,_=>by omega
 |m+1,c0,h1,h2,h=>by
  rw[K4];by_cases e:c0=c
  ·subst e;rw[if_pos hc]
  rw[if_neg (h c0 (ac _) (by omega))];exact Iu hc m (c0+1) (by omega) (by omega) fun r h3 h4=>h r (by omega) h4
theorem Iv {n:Nat} {a:FF} {i:Nat}: ∀m c0,(∀r,c0<=r->r<c0+m-> ¬nrm n a (cnd i r)<a i i)->K4 n a i m c0=none
 |0,c0,_=>rfl
 |m+1,c0,h=>by
  rw[K4,if_neg (h c0 (ac _) (by omega))];exact Iv m (c0+1) fun r h3 h4=>h r (by omega) (by omega)
theorem tU {n:Nat} {a:FF} {i c:Nat} (h:lJ n a i=some c):VioP n a i:=by
 obtain⟨_,h2,h3⟩:=tQ _ _ _ h;exact⟨c,by omega,h3⟩
def ro (n:Nat) (f:FF) (i:Nat):TV:=match lJ n f i with
 |some c=> .one (.p (.sl (ls fI (bz n (cnd i c)))))
 |none=> .raw (.slice none 0 0)
def Qt (i:Nat):Nat->Nat->Int
 |0=>cnd i 0
 |c+1=>PL i c
theorem Pe {i c:Nat} (h:c<3^i):Qt i c=cnd i c:=by
 cases c with
 |zero=>rfl
 |succ c=>rw[Qt,PL,if_pos h]
def GX (j:Nat):Nat->Int:=fun b=>if b<j then -1 else 0
theorem IX (j:Nat):(fun b=>if b=j then -1 else GX j b)=GX (j+1):=by
 funext b;unfold GX;by_cases h:b=j
 ·subst h;rw[if_pos rfl,if_pos (by omega)]
 by_cases h2:b<j
 ·rw[if_neg h,if_pos h2,if_pos (by omega)]
 rw[if_neg h,if_neg h2,if_neg (by omega)]
theorem Ma (i:Nat):(fun b=>if b=i then 1 else GX i b)=cnd i 0:=by
 funext b;unfold GX cnd;by_cases h:b=i
 ·subst h;rw[if_pos rfl,if_neg (by omega),if_pos rfl]
 by_cases h2:b<i
 ·rw[if_neg h,if_pos h2,if_pos h2];unfold dg;rw[Nat.zero_div];rfl
 rw[if_neg h,if_neg h2,if_neg h2,if_neg h]
structure QQ (n:Nat) (f:FF) (i:Nat) where
 c:Nat
 hc:c<=3^i
 ok: ∀r,r<c-> ¬nrm n f (cnd i r)<f i i
theorem LA (i c j:Nat): -1<=cnd i c j/\cnd i c j<=1:=Ia i c j
theorem uP (n:Nat) (f:FF) (i:Nat) (hi:i<n) (hn:n<=4) (hf: ∀i j,i<n->j<n-> -1125899906842624<=f i j/\f i j<=1125899906842624):
  CallC Tryz.prog 39 [slI (mat n n f),.raw (.int .i64 (i:Int))] ⟨[],ro n f i⟩:=by
 have hml:=aU n n f;have hri:=bs n f hi;have hii:=aR (f i) hi;refine aI Tryz.func39 rfl (by kernel_rfl) ?_;rw[Tryz.ntmps39];refine aC fun _ K=>?_;simp only[kd,slI,aa,ae];apply K
 refine aC fun _ K=>?_;simp(disch:=omega) only[kd,aa,hml];apply K
 refine bf.weak (aE (tm:=(slI (mat n n f)::rN i::jk::jk::jk::.one (.sl 10 0 0 n)::j16 (j16 (jk::[])))) (l:=[(10,[⟨2,1,lc fI (bz n (GX 0))⟩])]) ⟨?_,trivial⟩ (by simp[wk])) ?_
 ·rw[Rc (X:=GX 0) fun j _=>if_neg (by omega)];rfl
 refine aD (aC fun _ K=>?_);simp only[kd,slI];apply K;refine aT (G:=jP i) (fun g=>⟨(slI (mat n n f)::rN i::jk::jk::jk::.one (.sl 10 0 0 n)::rN g.i::j16 (j16 ([]))),Hm [(10,[⟨2,1,lc fI (bz n (GX g.i))⟩])]⟩) (fun g=>i-g.i) ⟨0,by omega⟩ ?_ ?_
 ·refine aE ⟨rfl,trivial⟩ ?_;simp[wk]
 rintro⟨j,hj⟩;simp only;by_cases hm:j<i
 ·have g1:=aR (m:=n) (GX j) (j:=j) (by omega);have s1:=sA n j (GX j) (-1);rw[IX]at s1;have e1:IntKind.i64.wrap ((j:Int)+1)=((j+1:Nat):Int):=by rw[show(j:Int)+1=((j+1:Nat):Int) by omega];exact aO (by omega) (by omega)
  refine aD (aC fun _ K=>?_);simp(disch:=omega) only[kd,aa,slI];apply K;refine aS rfl (aK ?_);refine aD (aJ ?_);refine aL fun _ K=>?_;simp(disch:=omega) only[kd,aa,g1,s1];apply K
  show bf _ _ _ _;refine aL fun _ K=>?_;simp only[kd,aa,e1];apply K
  refine⟨⟨j+1,by omega⟩,by simp only;omega,aE ⟨rfl,trivial⟩ ?_⟩;simp[wk]
 have hji:j=i:=by omega
 subst hji;have g1:=aR (m:=n) (GX j) (j:=j) (by omega);have s1:=sA n j (GX j) 1;rw[Ma]at s1;refine aD (aC fun _ K=>?_);simp(disch:=omega) only[kd,aa,slI];apply K;refine aN rfl (bE ?_);show bf _ _ _ _;refine aC fun _ K=>?_;simp(disch:=omega) only[kd,aa,g1,s1];apply K
 refine aD (aC fun _ K=>?_);simp only[kd];apply K;refine aT (G:=QQ n f j) (fun g=>⟨(slI (mat n n f)::rN j::jk::jk::jk::.one (.sl 10 0 0 n)::jk::.raw (.bool (decide (g.c<3^j)))::j16 (j4 (j4 (j4 (jk::jk::jk::[]))))),Hm [(10,[⟨2,1,lc fI (bz n (Qt j g.c))⟩])]⟩) (fun g=>3^j-g.c) ⟨0,Nat.zero_le _,fun r hr=>by omega⟩ ?_ ?_
 ·have h3:0<3^j:=Nat.pow_pos (by omega);refine aE ⟨rfl,trivial⟩ ?_;simp[wk,h3]
 rintro⟨c,hc,ok⟩;simp only;by_cases hlt:c<3^j
 ·have hN:=Mx n f (cnd j c) (by omega) hn hf (LA j c);rw[Pe hlt,decide_eq_true hlt];by_cases hv:nrm n f (cnd j c)<f j j
  ·have hF:lJ n f j=some c:=Iu hv _ 0 (by omega) (by omega) fun r _ hr=>ok r hr
   have eR:ro n f j= .one (.p (.sl (ls fI (bz n (cnd j c))))):=by unfold ro;rw[hF]
   rw[eR];refine aD (aC fun _ K=>?_);simp only[kd,slI];apply K;refine aS rfl (aK ?_);refine aD (aJ ?_);refine bo aW [⟨2,_,_,_,hN⟩] [] (by kernel_rfl) fun _ K=>?_;simp(disch:=omega) only[kd,slI,iC,aa,ol,hri,fR,hii];apply K
   refine aS rfl ?_;refine aC fun _ K=>?_;simp only[kd];apply K
   refine aH ⟨.inr rfl,kw 10 (cY rfl) ?_ rfl⟩;simp(disch:=omega) only[kd,Tryz.results39,ol]
  have hW:=fun h0:0<j=>Mw n j c h0 hi hn hlt
  refine aD (aC fun _ K=>?_);simp only[kd,slI];apply K;refine aS rfl (aK ?_);refine aD (aJ ?_);refine bo aW [⟨2,_,_,_,hN⟩] [] (by kernel_rfl) fun _ K=>?_;simp(disch:=omega) only[kd,slI,iC,aa,ol,hri,fR,hii];apply K
  refine aN rfl (aK ?_);show bf _ _ _ _;have hok: ∀r,r<c+1-> ¬nrm n f (cnd j r)<f j j:=fun r hr=>by
   by_cases e:r=c
   ·subst e;exact hv
   exact ok r (by omega)
  by_cases h0:0<j
  ·have hw:=hW h0
   ((refine s7 3 hw 10 0 [] [] (by simp[wk]) (by omega) (lV rfl) (dC _ _) (by simp[wk]) (by decide) fun K hK=>?_);simp(disch:=omega) only[kd,aa];apply hK;refine⟨⟨rfl,rfl⟩,by simp,?_⟩;intro K hK;simp only[kd,aa,GW,cwD];apply hK)
   refine⟨⟨c+1,by omega,hok⟩,by simp only;omega,aE ⟨rfl,trivial⟩ ?_⟩;simp[wk]
  have hj0:j=0:=by omega
  subst hj0;have hc0:c=0:=by simpa using hlt
  subst hc0;have hw:=Gi;refine jx [⟨3,_,_,_,hw⟩] [] fun _ K=>?_;simp(disch:=omega) only[kd,aa];apply K
  refine⟨⟨1,by simp,hok⟩,by simp,aE ⟨?_,trivial⟩ ?_⟩
  ·have e:Qt 0 1=cnd 0 0:=by
    funext b;simp[Qt,PL]
   rw[e];rfl
  simp[wk]
 have hF:lJ n f j=none:=Iv _ 0 fun r _ hr=>ok r (by omega)
 have eR:ro n f j= .raw (.slice none 0 0):=by unfold ro;rw[hF]
 rw[eR,decide_eq_false hlt];refine aD (aC fun _ K=>?_);simp only[kd,slI];apply K;refine aN rfl (bE ?_);show bf _ _ _ _;refine aC fun _ K=>?_;simp only[kd];apply K
 (refine aH ⟨.inr rfl,aG rfl ?_ rfl⟩;simp(disch:=omega) only[kd,Tryz.results39])
structure RL (M:List (List Int)) where
 i:Nat
 hi:i<=M.length
 ok: ∀a,a<i-> ¬VioP M.length (ent M) a
 ok2: ∀a,a+1<i->ent M a a<=ent M (a+1) (a+1)/\0<=ent M a (a+1)
theorem jj (M:List (List Int)) (r:Bool) (hr:r=true↔ox M):CallC Tryz.prog 15 [slI M] ⟨[],.raw (.bool r)⟩:=by
 by_cases hB:PP M
 ·have cB:=uO M true (by simp[hB]);have hn1:=hB.1.1;have hn4:=hB.1.2;have eM:M=mat M.length M.length (ent M):=j6 (M:=M) (m:=M.length) fun q hq=>(hB.2 q hq).1
  have cO:=vM M.length M.length (ent M) hn1 (by omega) hn1 (by omega) fun i j hi hj=>by have:=hB.entB hi hj;omega
  obtain⟨e,he,cV⟩:=lk M.length M.length (ent M) hn1 (by omega) hn1 (by omega) fun i j hi hj=>Hz (hB.entB hi hj)
  rw[<- eM]at cO cV;by_cases hP:PD (ent M) M.length
  ·have he0:e=0:=he.2 ⟨rfl,by omega,(CA.1 hP).1,(CA.1 hP).2⟩;subst he0;refine aI Tryz.func15 rfl (by kernel_rfl) ?_;rw[Tryz.ntmps15];refine aC fun _ K=>?_;simp only[kd,slI,ae];apply K
   refine aD (aF [⟨1,_,_,_,cB⟩,⟨5,_,_,_,cO⟩,⟨6,_,_,_,cV⟩] [] fun _ K=>?_);simp(disch:=omega) only[kd,slI,aa,Nat.reduceBEq];apply K;refine aN rfl (aK ?_);show bf _ _ _ _;refine aD (aC fun _ K=>?_);simp only[kd,aa];apply K;refine aT (G:=RL M) (fun g=>⟨(slI M::j4 (j4 (j4 (jk::rN M.length::rN g.i::j16 (j16 (j4 (j4 (jk::[])))))))),Hm []⟩) (fun g=>M.length-g.i) ⟨0,by omega,fun a ha=>by omega,fun a ha=>by omega⟩ ?_ ?_
   ·refine aE trivial ?_;simp[wk]
   rintro⟨i,hi,ok,ok2⟩;simp only;by_cases hm:i<M.length
   ·have cS:=uP M.length (ent M) i hm hn4 fun i j hi hj=>hB.entB hi hj
    rw[<- eM]at cS;have key: ∀z:TV,ro M.length (ent M) i=z->CallC Tryz.prog 39 [slI M,.raw (.int .i64 (i:Int))] ⟨[],z⟩:=fun z hz=>hz▸cS
    cases i with
    |zero=>
     cases hF:lJ M.length (ent M) 0 with
     |some c=>
      have hr0:r=false:=by
       cases r with
       |false=>rfl
       |true=>exact absurd (tU hF) ((hr.1 rfl).2.2 0 hm)
      subst hr0;obtain⟨q,hq⟩: ∃q,q=bz M.length (cnd 0 c):=⟨_,rfl⟩;have cS:=key (.one (.p (.sl (ls fI q)))) (by unfold ro;rw[hF,hq]);obtain⟨y,l,hyl⟩: ∃y l,q=y::l:=by
       cases q with
       |nil=>have:=congrArg List.length hq;rw[bv]at this;simp at this;omega
       |cons y l=>exact⟨y,l,rfl⟩
      rw[hyl,show ls fI (y::l)=fI y::ls fI l from rfl]at cS;refine aC fun _ K=>?_;simp(disch:=omega) only[kd,slI];apply K
      refine bu rfl ?_;refine aD (aJ ?_);refine aC fun _ K=>?_;simp only[kd];apply K
      refine bo aW [⟨35,_,_,_,cS⟩] [] (by kernel_rfl) fun _ K=>?_;simp(disch:=omega) only[kd,slI,aa];apply K
      refine aS rfl ?_;refine aC fun _ K=>?_;simp only[kd];apply K
      (refine aH ⟨.inr rfl,aG rfl ?_ rfl⟩;simp(disch:=omega) only[kd,Tryz.results15])
     |none=>
      have cS:=key (.raw (.slice none 0 0)) (by unfold ro;rw[hF]);have hnv:=mK hF;refine aC fun _ K=>?_;simp(disch:=omega) only[kd,slI];apply K
      refine bu rfl ?_;refine aD (aJ ?_);refine aC fun _ K=>?_;simp only[kd];apply K
      refine bo aW [⟨35,_,_,_,cS⟩] [] (by kernel_rfl) fun _ K=>?_;simp(disch:=omega) only[kd,slI,aa];apply K
      refine aN rfl (aK ?_);show bf _ _ _ _;refine aL fun _ K=>?_;simp(disch:=omega) only[kd,aO];apply K
      refine⟨⟨1,by omega,fun a ha=>?_,fun a ha=>by omega⟩,by simp only;omega,aE trivial ?_⟩
      ·have:a=0:=by omega
       subst this;exact hnv
      simp[wk]
    |succ i=>
     have gt:(0:Int)<((i+1:Nat):Int):=by omega
     have e0:IntKind.i64.wrap (((i+1:Nat):Int)-1)=(i:Int):=by rw[show((i+1:Nat):Int)-1=(i:Int) by omega];exact aO (by omega) (by omega)
     have m1:=bs M.length (ent M) (show i<M.length by omega);have m2:=bs M.length (ent M) hm;rw[<- eM]at m1 m2;have q1:=aR (ent M i) (show i<M.length by omega);have q2:=aR (ent M (i+1)) hm;have q3:=aR (ent M i) hm;by_cases hd:ent M (i+1) (i+1)<ent M i i
     ·have hr0:r=false:=by
       cases r with
       |false=>rfl
       |true=>have:=((hr.1 rfl).2.1 i hm).1;omega
      subst hr0;refine aC fun _ K=>?_;simp(disch:=omega) only[kd,slI];apply K
      refine bu rfl ?_;refine aD (aJ ?_);refine aC fun _ K=>?_;simp only[kd];apply K
      refine b9 aW (by kernel_rfl) fun _ K=>?_;simp(disch:=omega) only[kd,aa,gt,m2,fR,q2,e0,m1,q1,hd,reduceCtorEq];apply K
      refine aS rfl ?_;refine aC fun _ K=>?_;simp only[kd];apply K
      (refine aH ⟨.inr rfl,aG rfl ?_ rfl⟩;simp(disch:=omega) only[kd,Tryz.results15])
     by_cases hs:ent M i (i+1)<0
     ·have hr0:r=false:=by
       cases r with
       |false=>rfl
       |true=>have:=((hr.1 rfl).2.1 i hm).2;omega
      subst hr0;refine aC fun _ K=>?_;simp(disch:=omega) only[kd,slI];apply K
      refine bu rfl ?_;refine aD (aJ ?_);refine aC fun _ K=>?_;simp only[kd];apply K
      refine b9 aW (by kernel_rfl) fun _ K=>?_;simp(disch:=omega) only[kd,aa,gt,m2,fR,q2,e0,m1,q1,hd,q3,hs,reduceCtorEq];apply K
      refine aS rfl ?_;refine aC fun _ K=>?_;simp only[kd];apply K
      (refine aH ⟨.inr rfl,aG rfl ?_ rfl⟩;simp(disch:=omega) only[kd,Tryz.results15])
     cases hF:lJ M.length (ent M) (i+1)with
     |some c=>
      have hr0:r=false:=by
       cases r with
       |false=>rfl
       |true=>exact absurd (tU hF) ((hr.1 rfl).2.2 (i+1) hm)
      subst hr0;obtain⟨q,hq⟩: ∃q,q=bz M.length (cnd (i+1) c):=⟨_,rfl⟩;have cS:=key (.one (.p (.sl (ls fI q)))) (by unfold ro;rw[hF,hq]);obtain⟨y,l,hyl⟩: ∃y l,q=y::l:=by
       cases q with
       |nil=>have:=congrArg List.length hq;rw[bv]at this;simp at this;omega
       |cons y l=>exact⟨y,l,rfl⟩
      rw[hyl,show ls fI (y::l)=fI y::ls fI l from rfl]at cS;refine aC fun _ K=>?_;simp(disch:=omega) only[kd,slI];apply K
      refine bu rfl ?_;refine aD (aJ ?_);refine aC fun _ K=>?_;simp only[kd];apply K
      refine bo aW [⟨35,_,_,_,cS⟩] [] (by kernel_rfl) fun _ K=>?_;simp(disch:=omega) only[kd,slI,aa,gt,m2,fR,q2,e0,m1,q1,hd,q3,hs];apply K
      refine aS rfl ?_;refine aC fun _ K=>?_;simp only[kd];apply K
      (refine aH ⟨.inr rfl,aG rfl ?_ rfl⟩;simp(disch:=omega) only[kd,Tryz.results15])
     |none=>
      have cS:=key (.raw (.slice none 0 0)) (by unfold ro;rw[hF]);have hnv:=mK hF;refine aC fun _ K=>?_;simp(disch:=omega) only[kd,slI];apply K
      refine bu rfl ?_;refine aD (aJ ?_);refine aC fun _ K=>?_;simp only[kd];apply K
      refine bo aW [⟨35,_,_,_,cS⟩] [] (by kernel_rfl) fun _ K=>?_;simp(disch:=omega) only[kd,slI,aa,gt,m2,fR,q2,e0,m1,q1,hd,q3,hs];apply K
      refine aN rfl (aK ?_);show bf _ _ _ _;refine aL fun _ K=>?_;simp(disch:=omega) only[kd,aO];apply K
      refine⟨⟨i+1+1,by omega,fun a ha=>?_,fun a ha=>?_⟩,by simp only;omega,aE trivial ?_⟩
      ·by_cases e:a=i+1
       ·subst e;exact hnv
       exact ok a (by omega)
      ·by_cases e:a=i
       ·subst e;exact⟨by omega,by omega⟩
       exact ok2 a (by omega)
      simp[wk]
   have hr1:r=true:=hr.2 ⟨tV.2 ⟨hB,hP⟩,fun a ha=>ok2 a (by omega),fun a ha=>ok a (by omega)⟩;subst hr1;refine aC fun _ K=>?_;simp(disch:=omega) only[kd,slI];apply K
   refine bD rfl ?_;show bf _ _ _ _;refine aC fun _ K=>?_;simp only[kd];apply K
   (refine aH ⟨.inr rfl,aG rfl ?_ rfl⟩;simp(disch:=omega) only[kd,Tryz.results15])
  have he0:e≠0:=fun h=>hP (CA.2 ⟨(he.1 h).2.2.1,(he.1 h).2.2.2⟩)
  have hr0:r=false:=by
   cases r with
   |false=>rfl
   |true=>exact absurd (tV.1 (hr.1 rfl).1).2 hP
  subst hr0;refine aI Tryz.func15 rfl (by kernel_rfl) ?_;rw[Tryz.ntmps15];refine aC fun _ K=>?_;simp only[kd,slI,ae];apply K
  refine aD (aF [⟨1,_,_,_,cB⟩,⟨5,_,_,_,cO⟩,⟨6,_,_,_,cV⟩] [] fun _ K=>?_);simp(disch:=omega) only[kd,slI,aa,Nat.reduceBEq,he0];apply K;refine aS rfl ?_;refine aC fun _ K=>?_;simp only[kd];apply K
  (refine aH ⟨.inr rfl,aG rfl ?_ rfl⟩;simp(disch:=omega) only[kd,Tryz.results15])
 have hr0:r=false:=by
  cases r with
  |false=>rfl
  |true=>exact absurd (tV.1 (hr.1 rfl).1).1 hB
 subst hr0;have cB:=uO M false (by simp[hB]);refine aI Tryz.func15 rfl (by kernel_rfl) ?_;rw[Tryz.ntmps15];refine aC fun _ K=>?_;simp only[kd,slI,ae];apply K
 refine aD (aF [⟨1,_,_,_,cB⟩] [] fun _ K=>?_);simp(disch:=omega) only[kd,slI,aa,reduceCtorEq,Nat.reduceBEq];apply K;refine aS rfl ?_;refine aC fun _ K=>?_;simp only[kd];apply K
 (refine aH ⟨.inr rfl,aG rfl ?_ rfl⟩;simp(disch:=omega) only[kd,Tryz.results15])
end Go.Proofs.YtfgeomlagfomgaaGreatDoor
